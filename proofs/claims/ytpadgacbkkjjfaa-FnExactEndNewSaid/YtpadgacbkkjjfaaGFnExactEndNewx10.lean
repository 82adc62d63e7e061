/- What the Go functions that FnExactEndNew reaches come to, walked step by step; there is no condition beyond those each statement names. -/
import Derived.Laws.CopyOwn
import Derived.Test.YtpadgacbkkjjfaaGFnExactEndNewx0
import Derived.Test.YtpadgacbkkjjfaaGFnExactEndNewx1
import Derived.Test.YtpadgacbkkjjfaaGFnExactEndNewx9
namespace Go.Proofs.Ytpadgacbkkjjfaa.GFnExactEndNew
open Go.RowKit Go.Proofs.YtpadgacbkkjjfaaVExactEndNew.PrintWords Go.Proofs.YtpadgacbkkjjfaaVExactEndNew.PrintLast Go.Proofs.YtpadgacbkkjjfaaVExactEndNew.PrintMore
open Bool renaming true → T, false → F
attribute [local go_sem] max2_int min2_int max_two min_two max_three min_three max_four min_four   -- for this text's walks alone
set_option linter.unusedVariables false
set_option linter.unusedSimpArgs false

/-! ### spec_EndNew: function 5 -/
def spec_EndNew.f (k : Nat) (a0 : Int) (a1 : Int) (a2 : Int) (a3 : Int) : Option (Int × Int × Int × Int × Int × Int × Int × List Int × Int × Int × (List (S69)) × Int × Int × List Int × (List (S59)) × Bool × Bool × Bool × Int × Int × Int × Int × Int × Int) := (spec_ClockNew.f 0).bind fun bt138 => ((spec_EndOk.f k 0 a0 a1 0 0 a2 (wrap64 (a2 + 1)) ([] : List Int) 0 0 ([] : List (S69)) 0 a3 ([] : List Int) ([] : List (S59)) false false false (-1) 0 0 bt138.1 bt138.2.1 bt138.2.2).bind fun t142 => (if t142 = true then (some (0, a0, a1, 0, 0, a2, wrap64 (a2 + 1), ([] : List Int), 0, 0, ([] : List (S69)), 0, a3, ([] : List Int), ([] : List (S59)), false, false, false, (-1), 0, 0, bt138.1, bt138.2.1, bt138.2.2)) else (some (0, 0, 0, 0, 0, 0, 0, ([] : List Int), 0, 0, ([] : List (S69)), 0, 0, ([] : List Int), ([] : List (S59)), false, false, false, 0, 0, 0, 0, 0, 0))))
theorem spec_EndNew.mono : ∀ a0 a1 a2 a3 k, LeO (spec_EndNew.f k a0 a1 a2 a3) (spec_EndNew.f (k + 1) a0 a1 a2 a3) := by
  intro a0 a1 a2 a3 k
  unfold spec_EndNew.f
  repeat' first
      | (with_reducible exact spec_EndOk.mono _ _ _ _ _ _ _ _ _ _ _ _ _ _ _ _ _ _ _ _ _ _ _ _ _)
      | (with_reducible exact LeO.refl _)
      | (with_reducible exact LeO.none _)
      | (with_reducible refine LeO.ite ?_ ?_)
      | (with_reducible refine LeO.bind ?_ (fun _ => ?_))
      | exact spec_EndOk.mono _ _ _ _ _ _ _ _ _ _ _ _ _ _ _ _ _ _ _ _ _ _ _ _ _
      | exact LeO.none _
      | refine LeO.ite ?_ ?_
      | refine LeO.bind ?_ (fun _ => ?_)
theorem store_wide {P : Program} {ops : Array Oper} {rest : List Oper} {o : Oper} {a : Act} {w : World} {Q : Exit → Act → World → Prop} (hgd : o.guard = none) (ty : TypeId) (x y : Operand) (ho : o.op = .store ty x y)
    (g : Nat) (cells : Array Value) (hx : a.eval x = .pointer (some ⟨g, 0, none⟩)) (hy : a.eval y = .agg cells)
    (t : TypeId) (old : Array Value) (hg : w.heap[g]? = some (.cells old t (0, 0))) (hi : (P.info? ty).map (·.size) = some cells.size)
    (hold : old.size = cells.size) (h1 : cells.all (·.oneCell') = true)
    (h : ∀ w1, w1.heap[g]? = some (.cells cells t (0, 0)) → (∀ k, k ≠ g → w1.heap[k]? = w.heap[k]?) → (∀ B w0, Below B w0 w → B ≤ g → Below B w0 w1) → wpList P ops Q rest (a.put o.dst undef) w1) : wpList P ops Q (o :: rest) a w :=
  wpList_store_row hgd ty x y ho g cells hx hy t old hg hi hold h1 (h _ (setRow_heap w g old cells t (0, 0) hg) (fun k hk => setRow_other w g k cells hk) (fun B w0 hb hB => below_setRow hb hB cells))
set_option maxHeartbeats 8000000 in
set_option maxRecDepth 100000 in
theorem spec_EndNew.calls (k : Nat) (a0 : Int) (a1 : Int) (a2 : Int) (a3 : Int) (r1 : Int) (r2 : Int) (r3 : Int) (r4 : Int) (r5 : Int) (r6 : Int) (r7 : Int) (r8 : List Int) (r9 : Int) (r10 : Int) (r11 : List (S69)) (r12 : Int) (r13 : Int) (r14 : List Int) (r15 : List (S59)) (r16 : Bool) (r17 : Bool) (r18 : Bool) (r19 : Int) (r20 : Int) (r21 : Int) (r22 : Int) (r23 : Int) (r24 : Int) (w : World) (h : spec_EndNew.f k a0 a1 a2 a3 = some (r1, r2, r3, r4, r5, r6, r7, r8, r9, r10, r11, r12, r13, r14, r15, r16, r17, r18, r19, r20, r21, r22, r23, r24)) :
    Calls Try.prog 5 #[.int .i64 a0, .int .i64 a1, .int .i64 a2, .int .i64 a3] w fun e w' => ∃ v7_ v10_ v13_ v14_ : Value, e = .returned (.agg #[.int .i64 r1, .int .i64 r2, .int .i64 r3, .int .i64 r4, .int .i64 r5, .int .i64 r6, .int .i64 r7, v7_, .int .i64 r9, .int .i64 r10, v10_, .int .i64 r12, .int .i64 r13, v13_, v14_, .bool r16, .bool r17, .bool r18, .int .i64 r19, .int .i64 r20, .int .i64 r21, .int .i64 r22, .int .i64 r23, .int .i64 r24]) ∧ Kd.R (Kd.int .u8) 5 w' w.heap.size (fun k_ => some k_ ≠ (v13_ : Value).ownBlock) v7_ r8 ∧ Kd.R k69 69 w' w.heap.size (fun _ => True) v10_ r11 ∧ Kd.R (Kd.int .u8) 5 w' w.heap.size (fun k_ => some k_ ≠ (v7_ : Value).ownBlock) v13_ r14 ∧ Kd.R k59 59 w' w.heap.size (fun _ => True) v14_ r15 ∧ Below w.heap.size w w' := by
  have hu32 := Try.underlying32
  have HB := Aside0.mk (Below.refl w.heap.size w)
  have H : ((spec_ClockNew.f 0).bind fun bt138 => ((spec_EndOk.f k 0 a0 a1 0 0 a2 (wrap64 (a2 + 1)) ([] : List Int) 0 0 ([] : List (S69)) 0 a3 ([] : List Int) ([] : List (S59)) false false false (-1) 0 0 bt138.1 bt138.2.1 bt138.2.2).bind fun t142 => (if t142 = true then (some (0, a0, a1, 0, 0, a2, wrap64 (a2 + 1), ([] : List Int), 0, 0, ([] : List (S69)), 0, a3, ([] : List Int), ([] : List (S59)), false, false, false, (-1), 0, 0, bt138.1, bt138.2.1, bt138.2.2)) else (some (0, 0, 0, 0, 0, 0, 0, ([] : List Int), 0, 0, ([] : List (S69)), 0, 0, ([] : List Int), ([] : List (S59)), false, false, false, 0, 0, 0, 0, 0, 0))))) = some (r1, r2, r3, r4, r5, r6, r7, r8, r9, r10, r11, r12, r13, r14, r15, r16, r17, r18, r19, r20, r21, r22, r23, r24) := h
  clear h
  replace H := Option.bind_eq_some_iff.mp H
  obtain ⟨⟨t138, t139, t140⟩, A50, H⟩ := H
  replace H : ((spec_EndOk.f k 0 a0 a1 0 0 a2 (wrap64 (a2 + 1)) ([] : List Int) 0 0 ([] : List (S69)) 0 a3 ([] : List Int) ([] : List (S59)) false false false (-1) 0 0 t138 t139 t140).bind fun t142 => (if t142 = true then (some (0, a0, a1, 0, 0, a2, wrap64 (a2 + 1), ([] : List Int), 0, 0, ([] : List (S69)), 0, a3, ([] : List Int), ([] : List (S59)), false, false, false, (-1), 0, 0, t138, t139, t140)) else (some (0, 0, 0, 0, 0, 0, 0, ([] : List Int), 0, 0, ([] : List (S69)), 0, 0, ([] : List Int), ([] : List (S59)), false, false, false, 0, 0, 0, 0, 0, 0)))) = some (r1, r2, r3, r4, r5, r6, r7, r8, r9, r10, r11, r12, r13, r14, r15, r16, r17, r18, r19, r20, r21, r22, r23, r24) := H
  have A5 := Aside0.mk A50
  clear A50
  replace H := Option.bind_eq_some_iff.mp H
  obtain ⟨t142, A60, H⟩ := H
  have A6 := Aside0.mk A60
  clear A60
  by_cases c7 : t142 = true
  · subst c7
    rw [if_pos rfl] at H
    simp only [Option.some.injEq, Prod.mk.injEq] at H
    obtain ⟨rfl, rfl, rfl, rfl, rfl, rfl, rfl, rfl, rfl, rfl, rfl, rfl, rfl, rfl, rfl, rfl, rfl, rfl, rfl, rfl, rfl, rfl, rfl, rfl⟩ := H
    go_enter Try.func5, Try.ntmps5
    go_wp2_with (first | ((with_reducible refine gate_store (t := 32) (p := 9) (v := .tmp 14) rfl ?_); refine store_wide rfl 32 _ _ rfl gb141 #[.int .i64 0, .int .i64 a0, .int .i64 a1, .int .i64 0, .int .i64 0, .int .i64 a2, .int .i64 0, .slice none 0 0, .int .i64 0, .int .i64 0, .slice none 0 0, .int .i64 0, .int .i64 0, .slice none 0 0, .slice none 0 0, .bool false, .bool false, .bool false, .int .i64 (-1), .int .i64 0, .int .i64 0, .int .i64 t138, .int .i64 t139, .int .i64 t140] (by kernel_rfl) (by kernel_rfl) 32 _ BK141.out (by kernel_rfl) (by kernel_rfl) (by kernel_rfl) ?_; intro w1_ ho1_ hk1_ hb1_; have n0_ := Aside0.mk ho1_; have n1_ := Aside0.mk ((hk1_ gb137 NB137_141.out).trans BK137.out); have n2_ := Aside0.mk (hb1_ _ _ HB.out GE141.out); clear BK141 BK137 HB ho1_ hk1_ hb1_; have BK141 := n0_; have BK137 := n1_; have HB := n2_; clear n0_ n1_ n2_; obtain ⟨hcy_0, hcy_1, hcy_2, hcy_3, hcy_4, hcy_5, hcy_6, hcy_7, hcy_8, hcy_9, hcy_10, hcy_11, hcy_12, hcy_13, hcy_14, hcy_15, hcy_16, hcy_17, hcy_18, hcy_19, hcy_20, hcy_21, hcy_22, hcy_23, hfy_0, hfy_1, hfy_2, hfy_3, hfy_4, hfy_5, hfy_6, hfy_7, hfy_8, hfy_9, hfy_10, hfy_11, hfy_12, hfy_13, hfy_14, hfy_15, hfy_16, hfy_17, hfy_18, hfy_19, hfy_20, hfy_21, hfy_22, hfy_23⟩ := cells_24 BK141.out) | ((with_reducible refine gate_dst (N := 22) rfl ?_); refine wpList_load_row rfl 32 _ rfl _ (by kernel_rfl) 32 #[.int .i64 0, .int .i64 a0, .int .i64 a1, .int .i64 0, .int .i64 0, .int .i64 a2, .int .i64 (wrap64 (a2 + 1)), .slice none 0 0, .int .i64 0, .int .i64 0, .slice none 0 0, .int .i64 0, .int .i64 a3, .slice none 0 0, .slice none 0 0, .bool false, .bool false, .bool false, .int .i64 (-1), .int .i64 0, .int .i64 0, .int .i64 t138, .int .i64 t139, .int .i64 t140] (0, 0) _ (by (with_reducible repeat (first | refine blk_drewN ?_ _ | refine blk_drew ?_ | refine blk_alloc ?_ _)); refine blk_put (cs := #[.int .i64 0, .int .i64 a0, .int .i64 a1, .int .i64 0, .int .i64 0, .int .i64 a2, .int .i64 (wrap64 (a2 + 1)), .slice none 0 0, .int .i64 0, .int .i64 0, .slice none 0 0, .int .i64 0, .int .i64 0, .slice none 0 0, .slice none 0 0, .bool false, .bool false, .bool false, .int .i64 (-1), .int .i64 0, .int .i64 0, .int .i64 t138, .int .i64 t139, .int .i64 t140]) ?_ 12 _ rfl; (with_reducible repeat (first | refine blk_drewN ?_ _ | refine blk_drew ?_ | refine blk_alloc ?_ _)); refine blk_put (cs := #[.int .i64 0, .int .i64 a0, .int .i64 a1, .int .i64 0, .int .i64 0, .int .i64 a2, .int .i64 0, .slice none 0 0, .int .i64 0, .int .i64 0, .slice none 0 0, .int .i64 0, .int .i64 0, .slice none 0 0, .slice none 0 0, .bool false, .bool false, .bool false, .int .i64 (-1), .int .i64 0, .int .i64 0, .int .i64 t138, .int .i64 t139, .int .i64 t140]) ?_ 6 _ rfl; (with_reducible repeat (first | refine blk_drewN ?_ _ | refine blk_drew ?_ | refine blk_alloc ?_ _)); exact BK141.out) Try.underlying32 rfl (by kernel_rfl) ?_) | ((with_reducible refine gate_dst (N := 26) rfl ?_); refine wpList_load_row rfl 32 _ rfl _ (by kernel_rfl) 32 #[.int .i64 0, .int .i64 a0, .int .i64 a1, .int .i64 0, .int .i64 0, .int .i64 a2, .int .i64 (wrap64 (a2 + 1)), .slice none 0 0, .int .i64 0, .int .i64 0, .slice none 0 0, .int .i64 0, .int .i64 a3, .slice none 0 0, .slice none 0 0, .bool false, .bool false, .bool false, .int .i64 (-1), .int .i64 0, .int .i64 0, .int .i64 t138, .int .i64 t139, .int .i64 t140] (0, 0) _ BK141.out Try.underlying32 rfl (by kernel_rfl) ?_) | ((with_reducible refine gate_store (t := 32) (p := 8) (v := .tmp 25) rfl ?_); refine store_wide rfl 32 _ _ rfl gb137 #[.int .i64 0, .int .i64 0, .int .i64 0, .int .i64 0, .int .i64 0, .int .i64 0, .int .i64 0, .slice none 0 0, .int .i64 0, .int .i64 0, .slice none 0 0, .int .i64 0, .int .i64 0, .slice none 0 0, .slice none 0 0, .bool false, .bool false, .bool false, .int .i64 0, .int .i64 0, .int .i64 0, .int .i64 0, .int .i64 0, .int .i64 0] (by kernel_rfl) (by kernel_rfl) 32 _ BK137.out (by kernel_rfl) (by kernel_rfl) (by kernel_rfl) ?_; intro w1_ ho1_ hk1_ hb1_; have n0_ := Aside0.mk ho1_; have n1_ := Aside0.mk ((hk1_ gb141 NB141_137.out).trans BK141.out); have n2_ := Aside0.mk (hb1_ _ _ HB.out GE137.out); clear BK141 BK137 HB ho1_ hk1_ hb1_; have BK137 := n0_; have BK141 := n1_; have HB := n2_; clear n0_ n1_ n2_) | ((with_reducible refine gate_store (t := 32) (p := 8) (v := .tmp 26) rfl ?_); refine store_wide rfl 32 _ _ rfl gb137 #[.int .i64 0, .int .i64 a0, .int .i64 a1, .int .i64 0, .int .i64 0, .int .i64 a2, .int .i64 (wrap64 (a2 + 1)), .slice none 0 0, .int .i64 0, .int .i64 0, .slice none 0 0, .int .i64 0, .int .i64 a3, .slice none 0 0, .slice none 0 0, .bool false, .bool false, .bool false, .int .i64 (-1), .int .i64 0, .int .i64 0, .int .i64 t138, .int .i64 t139, .int .i64 t140] (by kernel_rfl) (by kernel_rfl) 32 _ BK137.out (by kernel_rfl) (by kernel_rfl) (by kernel_rfl) ?_; intro w1_ ho1_ hk1_ hb1_; have n0_ := Aside0.mk ho1_; have n1_ := Aside0.mk ((hk1_ gb141 NB141_137.out).trans BK141.out); have n2_ := Aside0.mk (hb1_ _ _ HB.out GE137.out); clear BK141 BK137 HB ho1_ hk1_ hb1_; have BK137 := n0_; have BK141 := n1_; have HB := n2_; clear n0_ n1_ n2_) | ((with_reducible refine gate_dst (N := 8) rfl ?_); refine box_event ?hg (N := 8) ?hd (cs := #[.int .i64 0, .int .i64 0, .int .i64 0, .int .i64 0, .int .i64 0, .int .i64 0, .int .i64 0, .slice none 0 0, .int .i64 0, .int .i64 0, .slice none 0 0, .int .i64 0, .int .i64 0, .slice none 0 0, .slice none 0 0, .bool false, .bool false, .bool false, .int .i64 0, .int .i64 0, .int .i64 0, .int .i64 0, .int .i64 0, .int .i64 0]) (t := 32) ?hr ?_; (case hd => rfl); (case hg => rfl); (case hr => exact z_0); intro gb137 hg w8 hbox hb; have n0_ := Aside0.mk (below_step (z_1) hb); have n1_ := Aside0.mk (hbox); have n2_ := Aside0.mk ((z_2 : w.heap.size ≤ gb137)); have n3_ := Aside0.mk ((z_2 : w.heap.size ≤ gb137)); clear HB; have HB := n0_; have BK137 := n1_; have GW137 := n2_; have GE137 := n3_; clear n0_ n1_ n2_ n3_; clear hb hbox hg) | ((with_reducible refine gate_callee (f := 14) rfl ?_); refine goesL_ (some 13) rfl rfl Try.func14 (z_3) rfl #[.int .i64 0] rfl (z_20) ?_; (with_reducible refine (spec_ClockNew.calls 0 t138 t139 t140 _ A5.out).mono ?_); rintro e w9 ⟨rfl, hb⟩; refine ⟨_, rfl, ?_⟩; have n0_ := Aside0.mk (blk_below (g := gb137) (o := .cells #[.int .i64 0, .int .i64 0, .int .i64 0, .int .i64 0, .int .i64 0, .int .i64 0, .int .i64 0, .slice none 0 0, .int .i64 0, .int .i64 0, .slice none 0 0, .int .i64 0, .int .i64 0, .slice none 0 0, .slice none 0 0, .bool false, .bool false, .bool false, .int .i64 0, .int .i64 0, .int .i64 0, .int .i64 0, .int .i64 0, .int .i64 0] 32 (0, 0)) (z_32) hb); have n1_ := Aside0.mk (below_step (z_33) hb); clear BK137; clear HB; have BK137 := n0_; have HB := n1_; clear n0_ n1_; (try clear hb); (try clear hb2); (try clear hk); (try clear hi)) | ((with_reducible refine gate_dst (N := 9) rfl ?_); refine box_event ?hg (N := 9) ?hd (cs := #[.int .i64 0, .int .i64 0, .int .i64 0, .int .i64 0, .int .i64 0, .int .i64 0, .int .i64 0, .slice none 0 0, .int .i64 0, .int .i64 0, .slice none 0 0, .int .i64 0, .int .i64 0, .slice none 0 0, .slice none 0 0, .bool false, .bool false, .bool false, .int .i64 0, .int .i64 0, .int .i64 0, .int .i64 0, .int .i64 0, .int .i64 0]) (t := 32) ?hr ?_; (case hd => rfl); (case hg => rfl); (case hr => exact z_0); intro gb141 hg w10 hbox hb; have n0_ := Aside0.mk (blk_below (g := gb137) (o := .cells #[.int .i64 0, .int .i64 0, .int .i64 0, .int .i64 0, .int .i64 0, .int .i64 0, .int .i64 0, .slice none 0 0, .int .i64 0, .int .i64 0, .slice none 0 0, .int .i64 0, .int .i64 0, .slice none 0 0, .slice none 0 0, .bool false, .bool false, .bool false, .int .i64 0, .int .i64 0, .int .i64 0, .int .i64 0, .int .i64 0, .int .i64 0] 32 (0, 0)) (z_32) hb); have n1_ := Aside0.mk (below_step (z_33) hb); have n2_ := Aside0.mk (hbox); have n3_ := Aside0.mk ((z_34 : w.heap.size ≤ gb141)); have n4_ := Aside0.mk ((z_34 : w.heap.size ≤ gb141)); have n5_ := Aside0.mk ((z_35 : gb137 ≠ gb141)); have n6_ := Aside0.mk ((z_36 : gb141 ≠ gb137)); clear BK137; clear HB; have BK137 := n0_; have HB := n1_; have BK141 := n2_; have GW141 := n3_; have GE141 := n4_; have NB137_141 := n5_; have NB141_137 := n6_; clear n0_ n1_ n2_ n3_ n4_ n5_ n6_; clear hb hbox hg; have hnb11 := NB141_137.out; have hnc11 := NB137_141.out; obtain ⟨hcz12_0, hcz12_1, hcz12_2, hcz12_3, hcz12_4, hcz12_5, hcz12_6, hcz12_7, hcz12_8, hcz12_9, hcz12_10, hcz12_11, hcz12_12, hcz12_13, hcz12_14, hcz12_15, hcz12_16, hcz12_17, hcz12_18, hcz12_19, hcz12_20, hcz12_21, hcz12_22, hcz12_23, hfz12_0, hfz12_1, hfz12_2, hfz12_3, hfz12_4, hfz12_5, hfz12_6, hfz12_7, hfz12_8, hfz12_9, hfz12_10, hfz12_11, hfz12_12, hfz12_13, hfz12_14, hfz12_15, hfz12_16, hfz12_17, hfz12_18, hfz12_19, hfz12_20, hfz12_21, hfz12_22, hfz12_23⟩ := cells_24 BK141.out) | ((with_reducible refine gate_callee (f := 15) rfl ?_); refine goesL_ (some 23) rfl rfl Try.func15 (z_3) rfl #[.agg #[.int .i64 0, .int .i64 a0, .int .i64 a1, .int .i64 0, .int .i64 0, .int .i64 a2, .int .i64 (wrap64 (a2 + 1)), .slice none 0 0, .int .i64 0, .int .i64 0, .slice none 0 0, .int .i64 0, .int .i64 a3, .slice none 0 0, .slice none 0 0, .bool false, .bool false, .bool false, .int .i64 (-1), .int .i64 0, .int .i64 0, .int .i64 t138, .int .i64 t139, .int .i64 t140]] rfl (by kernel_rfl) ?_; (refine (spec_EndOk.calls k 0 a0 a1 0 0 a2 (wrap64 (a2 + 1)) _ _ ([] : List Int) 0 0 _ _ ([] : List (S69)) 0 a3 _ _ ([] : List Int) _ _ ([] : List (S59)) false false false (-1) 0 0 t138 t139 t140 true _ ?side1 ?side2 ?side3 ?side4 ?side5 ?side6 ?side7 ?side8 A6.out).mono ?_); (case side1 => exact Kd.C_nil _ _); (case side2 => exact Nat.le_refl _); (case side3 => exact Kd.C_nil _ _); (case side4 => exact Nat.le_refl _); (case side5 => exact Kd.C_nil _ _); (case side6 => exact Nat.le_refl _); (case side7 => exact Kd.C_nil _ _); (case side8 => exact Nat.le_refl _); rintro e w13 ⟨rfl, hb⟩; refine ⟨_, rfl, ?_⟩; have n0_ := Aside0.mk (blk_below (g := gb137) (o := .cells #[.int .i64 0, .int .i64 0, .int .i64 0, .int .i64 0, .int .i64 0, .int .i64 0, .int .i64 0, .slice none 0 0, .int .i64 0, .int .i64 0, .slice none 0 0, .int .i64 0, .int .i64 0, .slice none 0 0, .slice none 0 0, .bool false, .bool false, .bool false, .int .i64 0, .int .i64 0, .int .i64 0, .int .i64 0, .int .i64 0, .int .i64 0] 32 (0, 0)) (by (with_reducible repeat (first | refine blk_drewN ?_ _ | refine blk_drew ?_ | refine blk_alloc ?_ _)); refine blk_far ?_ NB137_141.out _; (with_reducible repeat (first | refine blk_drewN ?_ _ | refine blk_drew ?_ | refine blk_alloc ?_ _)); refine blk_far ?_ NB137_141.out _; (with_reducible repeat (first | refine blk_drewN ?_ _ | refine blk_drew ?_ | refine blk_alloc ?_ _)); exact BK137.out) hb); have n1_ := Aside0.mk (blk_below (g := gb141) (o := .cells #[.int .i64 0, .int .i64 a0, .int .i64 a1, .int .i64 0, .int .i64 0, .int .i64 a2, .int .i64 (wrap64 (a2 + 1)), .slice none 0 0, .int .i64 0, .int .i64 0, .slice none 0 0, .int .i64 0, .int .i64 a3, .slice none 0 0, .slice none 0 0, .bool false, .bool false, .bool false, .int .i64 (-1), .int .i64 0, .int .i64 0, .int .i64 t138, .int .i64 t139, .int .i64 t140] 32 (0, 0)) (by (with_reducible repeat (first | refine blk_drewN ?_ _ | refine blk_drew ?_ | refine blk_alloc ?_ _)); refine blk_put (cs := #[.int .i64 0, .int .i64 a0, .int .i64 a1, .int .i64 0, .int .i64 0, .int .i64 a2, .int .i64 (wrap64 (a2 + 1)), .slice none 0 0, .int .i64 0, .int .i64 0, .slice none 0 0, .int .i64 0, .int .i64 0, .slice none 0 0, .slice none 0 0, .bool false, .bool false, .bool false, .int .i64 (-1), .int .i64 0, .int .i64 0, .int .i64 t138, .int .i64 t139, .int .i64 t140]) ?_ 12 _ rfl; (with_reducible repeat (first | refine blk_drewN ?_ _ | refine blk_drew ?_ | refine blk_alloc ?_ _)); refine blk_put (cs := #[.int .i64 0, .int .i64 a0, .int .i64 a1, .int .i64 0, .int .i64 0, .int .i64 a2, .int .i64 0, .slice none 0 0, .int .i64 0, .int .i64 0, .slice none 0 0, .int .i64 0, .int .i64 0, .slice none 0 0, .slice none 0 0, .bool false, .bool false, .bool false, .int .i64 (-1), .int .i64 0, .int .i64 0, .int .i64 t138, .int .i64 t139, .int .i64 t140]) ?_ 6 _ rfl; (with_reducible repeat (first | refine blk_drewN ?_ _ | refine blk_drew ?_ | refine blk_alloc ?_ _)); exact BK141.out) hb); have n2_ := Aside0.mk (below_step (z_39) hb); clear BK137; clear BK141; clear HB; have BK137 := n0_; have BK141 := n1_; have HB := n2_; clear n0_ n1_ n2_; (try clear hb); (try clear hb2); (try clear hk); (try clear hi); obtain ⟨hcz14_0, hcz14_1, hcz14_2, hcz14_3, hcz14_4, hcz14_5, hcz14_6, hcz14_7, hcz14_8, hcz14_9, hcz14_10, hcz14_11, hcz14_12, hcz14_13, hcz14_14, hcz14_15, hcz14_16, hcz14_17, hcz14_18, hcz14_19, hcz14_20, hcz14_21, hcz14_22, hcz14_23, hfz14_0, hfz14_1, hfz14_2, hfz14_3, hfz14_4, hfz14_5, hfz14_6, hfz14_7, hfz14_8, hfz14_9, hfz14_10, hfz14_11, hfz14_12, hfz14_13, hfz14_14, hfz14_15, hfz14_16, hfz14_17, hfz14_18, hfz14_19, hfz14_20, hfz14_21, hfz14_22, hfz14_23⟩ := cells_24 BK141.out; obtain ⟨hcz15_0, hcz15_1, hcz15_2, hcz15_3, hcz15_4, hcz15_5, hcz15_6, hcz15_7, hcz15_8, hcz15_9, hcz15_10, hcz15_11, hcz15_12, hcz15_13, hcz15_14, hcz15_15, hcz15_16, hcz15_17, hcz15_18, hcz15_19, hcz15_20, hcz15_21, hcz15_22, hcz15_23, hfz15_0, hfz15_1, hfz15_2, hfz15_3, hfz15_4, hfz15_5, hfz15_6, hfz15_7, hfz15_8, hfz15_9, hfz15_10, hfz15_11, hfz15_12, hfz15_13, hfz15_14, hfz15_15, hfz15_16, hfz15_17, hfz15_18, hfz15_19, hfz15_20, hfz15_21, hfz15_22, hfz15_23⟩ := cells_24 BK137.out))
    refine bodyPost_ret (results_cell_row rfl _ _ gb137 32 #[.int .i64 0, .int .i64 a0, .int .i64 a1, .int .i64 0, .int .i64 0, .int .i64 a2, .int .i64 (wrap64 (a2 + 1)), .slice none 0 0, .int .i64 0, .int .i64 0, .slice none 0 0, .int .i64 0, .int .i64 a3, .slice none 0 0, .slice none 0 0, .bool false, .bool false, .bool false, .int .i64 (-1), .int .i64 0, .int .i64 0, .int .i64 t138, .int .i64 t139, .int .i64 t140] (0, 0) _ rfl BK137.out Try.underlying32 rfl (z_3)) rfl ?_
    exact ⟨_, _, _, _, z_4, z_41, z_41, z_41, z_41, z_39⟩
  · replace c7 := Bool.eq_false_iff.mpr c7
    subst c7
    rw [if_neg (show ¬ (false = true) by decide)] at H
    simp only [Option.some.injEq, Prod.mk.injEq] at H
    obtain ⟨rfl, rfl, rfl, rfl, rfl, rfl, rfl, rfl, rfl, rfl, rfl, rfl, rfl, rfl, rfl, rfl, rfl, rfl, rfl, rfl, rfl, rfl, rfl, rfl⟩ := H
    go_enter Try.func5, Try.ntmps5
    go_wp2_with (first | ((with_reducible refine gate_store (t := 32) (p := 9) (v := .tmp 14) rfl ?_); refine store_wide rfl 32 _ _ rfl gb141 #[.int .i64 0, .int .i64 a0, .int .i64 a1, .int .i64 0, .int .i64 0, .int .i64 a2, .int .i64 0, .slice none 0 0, .int .i64 0, .int .i64 0, .slice none 0 0, .int .i64 0, .int .i64 0, .slice none 0 0, .slice none 0 0, .bool false, .bool false, .bool false, .int .i64 (-1), .int .i64 0, .int .i64 0, .int .i64 t138, .int .i64 t139, .int .i64 t140] (by kernel_rfl) (by kernel_rfl) 32 _ BK141.out (by kernel_rfl) (by kernel_rfl) (by kernel_rfl) ?_; intro w1_ ho1_ hk1_ hb1_; have n0_ := Aside0.mk ho1_; have n1_ := Aside0.mk ((hk1_ gb137 NB137_141.out).trans BK137.out); have n2_ := Aside0.mk (hb1_ _ _ HB.out GE141.out); clear BK141 BK137 HB ho1_ hk1_ hb1_; have BK141 := n0_; have BK137 := n1_; have HB := n2_; clear n0_ n1_ n2_; obtain ⟨hcy_0, hcy_1, hcy_2, hcy_3, hcy_4, hcy_5, hcy_6, hcy_7, hcy_8, hcy_9, hcy_10, hcy_11, hcy_12, hcy_13, hcy_14, hcy_15, hcy_16, hcy_17, hcy_18, hcy_19, hcy_20, hcy_21, hcy_22, hcy_23, hfy_0, hfy_1, hfy_2, hfy_3, hfy_4, hfy_5, hfy_6, hfy_7, hfy_8, hfy_9, hfy_10, hfy_11, hfy_12, hfy_13, hfy_14, hfy_15, hfy_16, hfy_17, hfy_18, hfy_19, hfy_20, hfy_21, hfy_22, hfy_23⟩ := cells_24 BK141.out) | ((with_reducible refine gate_dst (N := 22) rfl ?_); refine wpList_load_row rfl 32 _ rfl _ (by kernel_rfl) 32 #[.int .i64 0, .int .i64 a0, .int .i64 a1, .int .i64 0, .int .i64 0, .int .i64 a2, .int .i64 (wrap64 (a2 + 1)), .slice none 0 0, .int .i64 0, .int .i64 0, .slice none 0 0, .int .i64 0, .int .i64 a3, .slice none 0 0, .slice none 0 0, .bool false, .bool false, .bool false, .int .i64 (-1), .int .i64 0, .int .i64 0, .int .i64 t138, .int .i64 t139, .int .i64 t140] (0, 0) _ (by (with_reducible repeat (first | refine blk_drewN ?_ _ | refine blk_drew ?_ | refine blk_alloc ?_ _)); refine blk_put (cs := #[.int .i64 0, .int .i64 a0, .int .i64 a1, .int .i64 0, .int .i64 0, .int .i64 a2, .int .i64 (wrap64 (a2 + 1)), .slice none 0 0, .int .i64 0, .int .i64 0, .slice none 0 0, .int .i64 0, .int .i64 0, .slice none 0 0, .slice none 0 0, .bool false, .bool false, .bool false, .int .i64 (-1), .int .i64 0, .int .i64 0, .int .i64 t138, .int .i64 t139, .int .i64 t140]) ?_ 12 _ rfl; (with_reducible repeat (first | refine blk_drewN ?_ _ | refine blk_drew ?_ | refine blk_alloc ?_ _)); refine blk_put (cs := #[.int .i64 0, .int .i64 a0, .int .i64 a1, .int .i64 0, .int .i64 0, .int .i64 a2, .int .i64 0, .slice none 0 0, .int .i64 0, .int .i64 0, .slice none 0 0, .int .i64 0, .int .i64 0, .slice none 0 0, .slice none 0 0, .bool false, .bool false, .bool false, .int .i64 (-1), .int .i64 0, .int .i64 0, .int .i64 t138, .int .i64 t139, .int .i64 t140]) ?_ 6 _ rfl; (with_reducible repeat (first | refine blk_drewN ?_ _ | refine blk_drew ?_ | refine blk_alloc ?_ _)); exact BK141.out) Try.underlying32 rfl (by kernel_rfl) ?_) | ((with_reducible refine gate_dst (N := 26) rfl ?_); refine wpList_load_row rfl 32 _ rfl _ (by kernel_rfl) 32 #[.int .i64 0, .int .i64 a0, .int .i64 a1, .int .i64 0, .int .i64 0, .int .i64 a2, .int .i64 (wrap64 (a2 + 1)), .slice none 0 0, .int .i64 0, .int .i64 0, .slice none 0 0, .int .i64 0, .int .i64 a3, .slice none 0 0, .slice none 0 0, .bool false, .bool false, .bool false, .int .i64 (-1), .int .i64 0, .int .i64 0, .int .i64 t138, .int .i64 t139, .int .i64 t140] (0, 0) _ BK141.out Try.underlying32 rfl (by kernel_rfl) ?_) | ((with_reducible refine gate_store (t := 32) (p := 8) (v := .tmp 25) rfl ?_); refine store_wide rfl 32 _ _ rfl gb137 #[.int .i64 0, .int .i64 0, .int .i64 0, .int .i64 0, .int .i64 0, .int .i64 0, .int .i64 0, .slice none 0 0, .int .i64 0, .int .i64 0, .slice none 0 0, .int .i64 0, .int .i64 0, .slice none 0 0, .slice none 0 0, .bool false, .bool false, .bool false, .int .i64 0, .int .i64 0, .int .i64 0, .int .i64 0, .int .i64 0, .int .i64 0] (by kernel_rfl) (by kernel_rfl) 32 _ BK137.out (by kernel_rfl) (by kernel_rfl) (by kernel_rfl) ?_; intro w1_ ho1_ hk1_ hb1_; have n0_ := Aside0.mk ho1_; have n1_ := Aside0.mk ((hk1_ gb141 NB141_137.out).trans BK141.out); have n2_ := Aside0.mk (hb1_ _ _ HB.out GE137.out); clear BK141 BK137 HB ho1_ hk1_ hb1_; have BK137 := n0_; have BK141 := n1_; have HB := n2_; clear n0_ n1_ n2_) | ((with_reducible refine gate_store (t := 32) (p := 8) (v := .tmp 26) rfl ?_); refine store_wide rfl 32 _ _ rfl gb137 #[.int .i64 0, .int .i64 a0, .int .i64 a1, .int .i64 0, .int .i64 0, .int .i64 a2, .int .i64 (wrap64 (a2 + 1)), .slice none 0 0, .int .i64 0, .int .i64 0, .slice none 0 0, .int .i64 0, .int .i64 a3, .slice none 0 0, .slice none 0 0, .bool false, .bool false, .bool false, .int .i64 (-1), .int .i64 0, .int .i64 0, .int .i64 t138, .int .i64 t139, .int .i64 t140] (by kernel_rfl) (by kernel_rfl) 32 _ BK137.out (by kernel_rfl) (by kernel_rfl) (by kernel_rfl) ?_; intro w1_ ho1_ hk1_ hb1_; have n0_ := Aside0.mk ho1_; have n1_ := Aside0.mk ((hk1_ gb141 NB141_137.out).trans BK141.out); have n2_ := Aside0.mk (hb1_ _ _ HB.out GE137.out); clear BK141 BK137 HB ho1_ hk1_ hb1_; have BK137 := n0_; have BK141 := n1_; have HB := n2_; clear n0_ n1_ n2_) | ((with_reducible refine gate_dst (N := 8) rfl ?_); refine box_event ?hg (N := 8) ?hd (cs := #[.int .i64 0, .int .i64 0, .int .i64 0, .int .i64 0, .int .i64 0, .int .i64 0, .int .i64 0, .slice none 0 0, .int .i64 0, .int .i64 0, .slice none 0 0, .int .i64 0, .int .i64 0, .slice none 0 0, .slice none 0 0, .bool false, .bool false, .bool false, .int .i64 0, .int .i64 0, .int .i64 0, .int .i64 0, .int .i64 0, .int .i64 0]) (t := 32) ?hr ?_; (case hd => rfl); (case hg => rfl); (case hr => exact z_0); intro gb137 hg w16 hbox hb; have n0_ := Aside0.mk (below_step (z_1) hb); have n1_ := Aside0.mk (hbox); have n2_ := Aside0.mk ((z_2 : w.heap.size ≤ gb137)); have n3_ := Aside0.mk ((z_2 : w.heap.size ≤ gb137)); clear HB; have HB := n0_; have BK137 := n1_; have GW137 := n2_; have GE137 := n3_; clear n0_ n1_ n2_ n3_; clear hb hbox hg) | ((with_reducible refine gate_callee (f := 14) rfl ?_); refine goesL_ (some 13) rfl rfl Try.func14 (z_3) rfl #[.int .i64 0] rfl (z_20) ?_; (with_reducible refine (spec_ClockNew.calls 0 t138 t139 t140 _ A5.out).mono ?_); rintro e w17 ⟨rfl, hb⟩; refine ⟨_, rfl, ?_⟩; have n0_ := Aside0.mk (blk_below (g := gb137) (o := .cells #[.int .i64 0, .int .i64 0, .int .i64 0, .int .i64 0, .int .i64 0, .int .i64 0, .int .i64 0, .slice none 0 0, .int .i64 0, .int .i64 0, .slice none 0 0, .int .i64 0, .int .i64 0, .slice none 0 0, .slice none 0 0, .bool false, .bool false, .bool false, .int .i64 0, .int .i64 0, .int .i64 0, .int .i64 0, .int .i64 0, .int .i64 0] 32 (0, 0)) (z_32) hb); have n1_ := Aside0.mk (below_step (z_33) hb); clear BK137; clear HB; have BK137 := n0_; have HB := n1_; clear n0_ n1_; (try clear hb); (try clear hb2); (try clear hk); (try clear hi)) | ((with_reducible refine gate_dst (N := 9) rfl ?_); refine box_event ?hg (N := 9) ?hd (cs := #[.int .i64 0, .int .i64 0, .int .i64 0, .int .i64 0, .int .i64 0, .int .i64 0, .int .i64 0, .slice none 0 0, .int .i64 0, .int .i64 0, .slice none 0 0, .int .i64 0, .int .i64 0, .slice none 0 0, .slice none 0 0, .bool false, .bool false, .bool false, .int .i64 0, .int .i64 0, .int .i64 0, .int .i64 0, .int .i64 0, .int .i64 0]) (t := 32) ?hr ?_; (case hd => rfl); (case hg => rfl); (case hr => exact z_0); intro gb141 hg w18 hbox hb; have n0_ := Aside0.mk (blk_below (g := gb137) (o := .cells #[.int .i64 0, .int .i64 0, .int .i64 0, .int .i64 0, .int .i64 0, .int .i64 0, .int .i64 0, .slice none 0 0, .int .i64 0, .int .i64 0, .slice none 0 0, .int .i64 0, .int .i64 0, .slice none 0 0, .slice none 0 0, .bool false, .bool false, .bool false, .int .i64 0, .int .i64 0, .int .i64 0, .int .i64 0, .int .i64 0, .int .i64 0] 32 (0, 0)) (z_32) hb); have n1_ := Aside0.mk (below_step (z_33) hb); have n2_ := Aside0.mk (hbox); have n3_ := Aside0.mk ((z_34 : w.heap.size ≤ gb141)); have n4_ := Aside0.mk ((z_34 : w.heap.size ≤ gb141)); have n5_ := Aside0.mk ((z_35 : gb137 ≠ gb141)); have n6_ := Aside0.mk ((z_36 : gb141 ≠ gb137)); clear BK137; clear HB; have BK137 := n0_; have HB := n1_; have BK141 := n2_; have GW141 := n3_; have GE141 := n4_; have NB137_141 := n5_; have NB141_137 := n6_; clear n0_ n1_ n2_ n3_ n4_ n5_ n6_; clear hb hbox hg; have hnb19 := NB141_137.out; have hnc19 := NB137_141.out; obtain ⟨hcz20_0, hcz20_1, hcz20_2, hcz20_3, hcz20_4, hcz20_5, hcz20_6, hcz20_7, hcz20_8, hcz20_9, hcz20_10, hcz20_11, hcz20_12, hcz20_13, hcz20_14, hcz20_15, hcz20_16, hcz20_17, hcz20_18, hcz20_19, hcz20_20, hcz20_21, hcz20_22, hcz20_23, hfz20_0, hfz20_1, hfz20_2, hfz20_3, hfz20_4, hfz20_5, hfz20_6, hfz20_7, hfz20_8, hfz20_9, hfz20_10, hfz20_11, hfz20_12, hfz20_13, hfz20_14, hfz20_15, hfz20_16, hfz20_17, hfz20_18, hfz20_19, hfz20_20, hfz20_21, hfz20_22, hfz20_23⟩ := cells_24 BK141.out) | ((with_reducible refine gate_callee (f := 15) rfl ?_); refine goesL_ (some 23) rfl rfl Try.func15 (z_3) rfl #[.agg #[.int .i64 0, .int .i64 a0, .int .i64 a1, .int .i64 0, .int .i64 0, .int .i64 a2, .int .i64 (wrap64 (a2 + 1)), .slice none 0 0, .int .i64 0, .int .i64 0, .slice none 0 0, .int .i64 0, .int .i64 a3, .slice none 0 0, .slice none 0 0, .bool false, .bool false, .bool false, .int .i64 (-1), .int .i64 0, .int .i64 0, .int .i64 t138, .int .i64 t139, .int .i64 t140]] rfl (by kernel_rfl) ?_; (refine (spec_EndOk.calls k 0 a0 a1 0 0 a2 (wrap64 (a2 + 1)) _ _ ([] : List Int) 0 0 _ _ ([] : List (S69)) 0 a3 _ _ ([] : List Int) _ _ ([] : List (S59)) false false false (-1) 0 0 t138 t139 t140 false _ ?side1 ?side2 ?side3 ?side4 ?side5 ?side6 ?side7 ?side8 A6.out).mono ?_); (case side1 => exact Kd.C_nil _ _); (case side2 => exact Nat.le_refl _); (case side3 => exact Kd.C_nil _ _); (case side4 => exact Nat.le_refl _); (case side5 => exact Kd.C_nil _ _); (case side6 => exact Nat.le_refl _); (case side7 => exact Kd.C_nil _ _); (case side8 => exact Nat.le_refl _); rintro e w21 ⟨rfl, hb⟩; refine ⟨_, rfl, ?_⟩; have n0_ := Aside0.mk (blk_below (g := gb137) (o := .cells #[.int .i64 0, .int .i64 0, .int .i64 0, .int .i64 0, .int .i64 0, .int .i64 0, .int .i64 0, .slice none 0 0, .int .i64 0, .int .i64 0, .slice none 0 0, .int .i64 0, .int .i64 0, .slice none 0 0, .slice none 0 0, .bool false, .bool false, .bool false, .int .i64 0, .int .i64 0, .int .i64 0, .int .i64 0, .int .i64 0, .int .i64 0] 32 (0, 0)) (by (with_reducible repeat (first | refine blk_drewN ?_ _ | refine blk_drew ?_ | refine blk_alloc ?_ _)); refine blk_far ?_ NB137_141.out _; (with_reducible repeat (first | refine blk_drewN ?_ _ | refine blk_drew ?_ | refine blk_alloc ?_ _)); refine blk_far ?_ NB137_141.out _; (with_reducible repeat (first | refine blk_drewN ?_ _ | refine blk_drew ?_ | refine blk_alloc ?_ _)); exact BK137.out) hb); have n1_ := Aside0.mk (blk_below (g := gb141) (o := .cells #[.int .i64 0, .int .i64 a0, .int .i64 a1, .int .i64 0, .int .i64 0, .int .i64 a2, .int .i64 (wrap64 (a2 + 1)), .slice none 0 0, .int .i64 0, .int .i64 0, .slice none 0 0, .int .i64 0, .int .i64 a3, .slice none 0 0, .slice none 0 0, .bool false, .bool false, .bool false, .int .i64 (-1), .int .i64 0, .int .i64 0, .int .i64 t138, .int .i64 t139, .int .i64 t140] 32 (0, 0)) (by (with_reducible repeat (first | refine blk_drewN ?_ _ | refine blk_drew ?_ | refine blk_alloc ?_ _)); refine blk_put (cs := #[.int .i64 0, .int .i64 a0, .int .i64 a1, .int .i64 0, .int .i64 0, .int .i64 a2, .int .i64 (wrap64 (a2 + 1)), .slice none 0 0, .int .i64 0, .int .i64 0, .slice none 0 0, .int .i64 0, .int .i64 0, .slice none 0 0, .slice none 0 0, .bool false, .bool false, .bool false, .int .i64 (-1), .int .i64 0, .int .i64 0, .int .i64 t138, .int .i64 t139, .int .i64 t140]) ?_ 12 _ rfl; (with_reducible repeat (first | refine blk_drewN ?_ _ | refine blk_drew ?_ | refine blk_alloc ?_ _)); refine blk_put (cs := #[.int .i64 0, .int .i64 a0, .int .i64 a1, .int .i64 0, .int .i64 0, .int .i64 a2, .int .i64 0, .slice none 0 0, .int .i64 0, .int .i64 0, .slice none 0 0, .int .i64 0, .int .i64 0, .slice none 0 0, .slice none 0 0, .bool false, .bool false, .bool false, .int .i64 (-1), .int .i64 0, .int .i64 0, .int .i64 t138, .int .i64 t139, .int .i64 t140]) ?_ 6 _ rfl; (with_reducible repeat (first | refine blk_drewN ?_ _ | refine blk_drew ?_ | refine blk_alloc ?_ _)); exact BK141.out) hb); have n2_ := Aside0.mk (below_step (z_39) hb); clear BK137; clear BK141; clear HB; have BK137 := n0_; have BK141 := n1_; have HB := n2_; clear n0_ n1_ n2_; (try clear hb); (try clear hb2); (try clear hk); (try clear hi); obtain ⟨hcz22_0, hcz22_1, hcz22_2, hcz22_3, hcz22_4, hcz22_5, hcz22_6, hcz22_7, hcz22_8, hcz22_9, hcz22_10, hcz22_11, hcz22_12, hcz22_13, hcz22_14, hcz22_15, hcz22_16, hcz22_17, hcz22_18, hcz22_19, hcz22_20, hcz22_21, hcz22_22, hcz22_23, hfz22_0, hfz22_1, hfz22_2, hfz22_3, hfz22_4, hfz22_5, hfz22_6, hfz22_7, hfz22_8, hfz22_9, hfz22_10, hfz22_11, hfz22_12, hfz22_13, hfz22_14, hfz22_15, hfz22_16, hfz22_17, hfz22_18, hfz22_19, hfz22_20, hfz22_21, hfz22_22, hfz22_23⟩ := cells_24 BK137.out))
    refine bodyPost_ret (results_cell_row rfl _ _ gb137 32 #[.int .i64 0, .int .i64 0, .int .i64 0, .int .i64 0, .int .i64 0, .int .i64 0, .int .i64 0, .slice none 0 0, .int .i64 0, .int .i64 0, .slice none 0 0, .int .i64 0, .int .i64 0, .slice none 0 0, .slice none 0 0, .bool false, .bool false, .bool false, .int .i64 0, .int .i64 0, .int .i64 0, .int .i64 0, .int .i64 0, .int .i64 0] (0, 0) _ rfl BK137.out Try.underlying32 rfl (z_3)) rfl ?_
    exact ⟨_, _, _, _, z_4, z_41, z_41, z_41, z_41, z_39⟩



/-! ### impl_in: function 18 -/
def impl_in.f (a0 : Int) (a1 : Int) (a2 : Int) : Option (Bool) := if a0 ≥ a1 then (some (decide (a0 ≤ a2))) else (some false)
set_option maxHeartbeats 8000000 in
set_option maxRecDepth 100000 in
theorem impl_in.calls (a0 : Int) (a1 : Int) (a2 : Int) (r : Bool) (w : World) (h : impl_in.f a0 a1 a2 = some r) :
    Calls Try.prog 18 #[.int .i64 a0, .int .i64 a1, .int .i64 a2] w fun e w' => e = .returned (.bool r) ∧ Drawn0 w w' := by
  have H : (if a0 ≥ a1 then (some (decide (a0 ≤ a2))) else (some false)) = some r := h
  clear h
  by_cases c4 : a0 ≥ a1
  rw [if_pos c4] at H
  have c4b0 : decide (a1 ≤ a0) = true := decide_eq_true c4
  clear c4
  obtain rfl := Option.some.inj H
  rotate_left
  rw [if_neg c4] at H
  have c4b0 : decide (a1 ≤ a0) = false := decide_eq_false c4
  clear c4
  obtain rfl := Option.some.inj H
  rotate_left
  all_goals (
   go_enter Try.func18, Try.ntmps18
   go_wp2
   go_ret
   exact ⟨z_5, z_6⟩)

/-! ### impl_word: function 16 -/
def impl_word.f (a0 : Int) : Option (Bool) := (impl_in.f a0 0 65535).bind fun t143 => (some t143)
set_option maxHeartbeats 8000000 in
set_option maxRecDepth 100000 in
theorem impl_word.calls (a0 : Int) (r : Bool) (w : World) (h : impl_word.f a0 = some r) :
    Calls Try.prog 16 #[.int .i64 a0] w fun e w' => e = .returned (.bool r) ∧ Drawn0 w w' := by
  have H : ((impl_in.f a0 0 65535).bind fun t143 => (some t143)) = some r := h
  clear h
  replace H := Option.bind_eq_some_iff.mp H
  obtain ⟨t143, A20, H⟩ := H
  have A2 := Aside0.mk A20
  clear A20
  obtain rfl := Option.some.inj H
  go_enter Try.func16, Try.ntmps16
  go_wp2_with (first | ((with_reducible refine gate_callee (f := 18) rfl ?_); refine goesL_ (some 4) rfl rfl Try.func18 (z_3) rfl #[.int .i64 a0, .int .i64 0, .int .i64 65535] rfl (z_20) ?_; (with_reducible refine (impl_in.calls a0 0 65535 t143 _ A2.out).mono ?_); rintro e w' ⟨rfl, ⟨nd, rfl⟩⟩; refine ⟨_, rfl, ?_⟩))
  go_ret
  exact ⟨z_5, z_6⟩

/-! ### impl_portOk: function 17 -/
def impl_portOk.f (a0 : Int) : Option (Bool) := (impl_in.f a0 1 255).bind fun t144 => (some t144)
set_option maxHeartbeats 8000000 in
set_option maxRecDepth 100000 in
theorem impl_portOk.calls (a0 : Int) (r : Bool) (w : World) (h : impl_portOk.f a0 = some r) :
    Calls Try.prog 17 #[.int .i64 a0] w fun e w' => e = .returned (.bool r) ∧ Drawn0 w w' := by
  have H : ((impl_in.f a0 1 255).bind fun t144 => (some t144)) = some r := h
  clear h
  replace H := Option.bind_eq_some_iff.mp H
  obtain ⟨t144, A20, H⟩ := H
  have A2 := Aside0.mk A20
  clear A20
  obtain rfl := Option.some.inj H
  go_enter Try.func17, Try.ntmps17
  go_wp2_with (first | ((with_reducible refine gate_callee (f := 18) rfl ?_); refine goesL_ (some 4) rfl rfl Try.func18 (z_3) rfl #[.int .i64 a0, .int .i64 1, .int .i64 255] rfl (z_20) ?_; (with_reducible refine (impl_in.calls a0 1 255 t144 _ A2.out).mono ?_); rintro e w' ⟨rfl, ⟨nd, rfl⟩⟩; refine ⟨_, rfl, ?_⟩))
  go_ret
  exact ⟨z_5, z_6⟩

/-! ### impl_ClockNew: function 19 -/
def impl_ClockNew.f (a0 : Int) : Option (Int × Int × Int) := some (0, 0, 24)
set_option maxHeartbeats 8000000 in
set_option maxRecDepth 100000 in
theorem impl_ClockNew.calls (a0 : Int) (r1 : Int) (r2 : Int) (r3 : Int) (w : World) (h : impl_ClockNew.f a0 = some (r1, r2, r3)) :
    Calls Try.prog 19 #[.int .i64 a0] w fun e w' => e = .returned (.agg #[.int .i64 r1, .int .i64 r2, .int .i64 r3]) ∧ Below w.heap.size w w' := by
  have hu30 := Try.underlying30
  have HB := Aside0.mk (Below.refl w.heap.size w)
  have H : (some (0, 0, 24)) = some (r1, r2, r3) := h
  clear h
  simp only [Option.some.injEq, Prod.mk.injEq] at H
  obtain ⟨rfl, rfl, rfl⟩ := H
  go_enter Try.func19, Try.ntmps19
  go_wp2_with (first | ((with_reducible refine gate_dst (N := 2) rfl ?_); refine box_event ?hg (N := 2) ?hd (cs := #[.int .i64 0, .int .i64 0, .int .i64 0]) (t := 30) ?hr ?_; (case hd => rfl); (case hg => rfl); (case hr => exact z_0); intro gb145 hg w2 hbox hb; have n0_ := Aside0.mk (below_step (z_1) hb); have n1_ := Aside0.mk (hbox); have n2_ := Aside0.mk ((z_2 : w.heap.size ≤ gb145)); have n3_ := Aside0.mk ((z_2 : w.heap.size ≤ gb145)); clear HB; have HB := n0_; have BK145 := n1_; have GW145 := n2_; have GE145 := n3_; clear n0_ n1_ n2_ n3_; clear hb hbox hg; obtain ⟨hcz3_0, hcz3_1, hcz3_2, hfz3_0, hfz3_1, hfz3_2⟩ := cells_3 BK145.out))
  refine bodyPost_ret (results_cell_row rfl _ _ gb145 30 #[.int .i64 0, .int .i64 0, .int .i64 24] (0, 0) _ rfl (by (with_reducible repeat (first | refine blk_drewN ?_ _ | refine blk_drew ?_ | refine blk_alloc ?_ _)); exact put_3 BK145.out) Try.underlying30 rfl (z_3)) rfl ?_
  exact ⟨z_4, by repeat (first | (with_reducible first | exact HB.out | apply below_alloc | apply pw_below_drewN | apply below_drew1 | refine below_set ?_ GE145.out) | exact HB.out)⟩

/-! ### impl_EndNew: function 6 -/
def impl_EndNew.f (a0 : Int) (a1 : Int) (a2 : Int) (a3 : Int) : Option (Int × Int × Int × Int × Int × Int × Int × List Int × Int × Int × (List (S69)) × Int × Int × List Int × (List (S59)) × Bool × Bool × Bool × Int × Int × Int × Int × Int × Int) := (impl_word.f a0).bind fun t147 => (if t147 = true then ((impl_portOk.f a1).bind fun t148 => (if t148 = true then ((impl_word.f a2).bind fun t149 => (if t149 = true then ((impl_in.f a3 1 32).bind fun t150 => (if t150 = true then ((impl_ClockNew.f 0).bind fun bt151 => (some (0, a0, a1, 0, 0, a2, wrap64 (a2 + 1), ([] : List Int), 0, 0, ([] : List (S69)), 0, a3, ([] : List Int), ([] : List (S59)), false, false, false, (-1), 0, 0, bt151.1, bt151.2.1, bt151.2.2))) else (some (0, 0, 0, 0, 0, 0, 0, ([] : List Int), 0, 0, ([] : List (S69)), 0, 0, ([] : List Int), ([] : List (S59)), false, false, false, 0, 0, 0, 0, 0, 0)))) else (some (0, 0, 0, 0, 0, 0, 0, ([] : List Int), 0, 0, ([] : List (S69)), 0, 0, ([] : List Int), ([] : List (S59)), false, false, false, 0, 0, 0, 0, 0, 0)))) else (some (0, 0, 0, 0, 0, 0, 0, ([] : List Int), 0, 0, ([] : List (S69)), 0, 0, ([] : List Int), ([] : List (S59)), false, false, false, 0, 0, 0, 0, 0, 0)))) else (some (0, 0, 0, 0, 0, 0, 0, ([] : List Int), 0, 0, ([] : List (S69)), 0, 0, ([] : List Int), ([] : List (S59)), false, false, false, 0, 0, 0, 0, 0, 0)))
set_option maxHeartbeats 8000000 in
set_option maxRecDepth 100000 in
theorem impl_EndNew.calls (a0 : Int) (a1 : Int) (a2 : Int) (a3 : Int) (r1 : Int) (r2 : Int) (r3 : Int) (r4 : Int) (r5 : Int) (r6 : Int) (r7 : Int) (r8 : List Int) (r9 : Int) (r10 : Int) (r11 : List (S69)) (r12 : Int) (r13 : Int) (r14 : List Int) (r15 : List (S59)) (r16 : Bool) (r17 : Bool) (r18 : Bool) (r19 : Int) (r20 : Int) (r21 : Int) (r22 : Int) (r23 : Int) (r24 : Int) (w : World) (h : impl_EndNew.f a0 a1 a2 a3 = some (r1, r2, r3, r4, r5, r6, r7, r8, r9, r10, r11, r12, r13, r14, r15, r16, r17, r18, r19, r20, r21, r22, r23, r24)) :
    Calls Try.prog 6 #[.int .i64 a0, .int .i64 a1, .int .i64 a2, .int .i64 a3] w fun e w' => ∃ v7_ v10_ v13_ v14_ : Value, e = .returned (.agg #[.int .i64 r1, .int .i64 r2, .int .i64 r3, .int .i64 r4, .int .i64 r5, .int .i64 r6, .int .i64 r7, v7_, .int .i64 r9, .int .i64 r10, v10_, .int .i64 r12, .int .i64 r13, v13_, v14_, .bool r16, .bool r17, .bool r18, .int .i64 r19, .int .i64 r20, .int .i64 r21, .int .i64 r22, .int .i64 r23, .int .i64 r24]) ∧ Kd.R (Kd.int .u8) 5 w' w.heap.size (fun k_ => some k_ ≠ (v13_ : Value).ownBlock) v7_ r8 ∧ Kd.R k69 69 w' w.heap.size (fun _ => True) v10_ r11 ∧ Kd.R (Kd.int .u8) 5 w' w.heap.size (fun k_ => some k_ ≠ (v7_ : Value).ownBlock) v13_ r14 ∧ Kd.R k59 59 w' w.heap.size (fun _ => True) v14_ r15 ∧ Below w.heap.size w w' := by
  have hu32 := Try.underlying32
  have hu25 := Try.underlying25
  have hu28 := Try.underlying28
  have HB := Aside0.mk (Below.refl w.heap.size w)
  have H : ((impl_word.f a0).bind fun t147 => (if t147 = true then ((impl_portOk.f a1).bind fun t148 => (if t148 = true then ((impl_word.f a2).bind fun t149 => (if t149 = true then ((impl_in.f a3 1 32).bind fun t150 => (if t150 = true then ((impl_ClockNew.f 0).bind fun bt151 => (some (0, a0, a1, 0, 0, a2, wrap64 (a2 + 1), ([] : List Int), 0, 0, ([] : List (S69)), 0, a3, ([] : List Int), ([] : List (S59)), false, false, false, (-1), 0, 0, bt151.1, bt151.2.1, bt151.2.2))) else (some (0, 0, 0, 0, 0, 0, 0, ([] : List Int), 0, 0, ([] : List (S69)), 0, 0, ([] : List Int), ([] : List (S59)), false, false, false, 0, 0, 0, 0, 0, 0)))) else (some (0, 0, 0, 0, 0, 0, 0, ([] : List Int), 0, 0, ([] : List (S69)), 0, 0, ([] : List Int), ([] : List (S59)), false, false, false, 0, 0, 0, 0, 0, 0)))) else (some (0, 0, 0, 0, 0, 0, 0, ([] : List Int), 0, 0, ([] : List (S69)), 0, 0, ([] : List Int), ([] : List (S59)), false, false, false, 0, 0, 0, 0, 0, 0)))) else (some (0, 0, 0, 0, 0, 0, 0, ([] : List Int), 0, 0, ([] : List (S69)), 0, 0, ([] : List Int), ([] : List (S59)), false, false, false, 0, 0, 0, 0, 0, 0)))) = some (r1, r2, r3, r4, r5, r6, r7, r8, r9, r10, r11, r12, r13, r14, r15, r16, r17, r18, r19, r20, r21, r22, r23, r24) := h
  clear h
  replace H := Option.bind_eq_some_iff.mp H
  obtain ⟨t147, A50, H⟩ := H
  have A5 := Aside0.mk A50
  clear A50
  by_cases c6 : t147 = true
  · subst c6
    rw [if_pos rfl] at H
    replace H := Option.bind_eq_some_iff.mp H
    obtain ⟨t148, A70, H⟩ := H
    have A7 := Aside0.mk A70
    clear A70
    by_cases c8 : t148 = true
    · subst c8
      rw [if_pos rfl] at H
      replace H := Option.bind_eq_some_iff.mp H
      obtain ⟨t149, A90, H⟩ := H
      have A9 := Aside0.mk A90
      clear A90
      by_cases c10 : t149 = true
      · subst c10
        rw [if_pos rfl] at H
        replace H := Option.bind_eq_some_iff.mp H
        obtain ⟨t150, A110, H⟩ := H
        have A11 := Aside0.mk A110
        clear A110
        by_cases c12 : t150 = true
        · subst c12
          rw [if_pos rfl] at H
          replace H := Option.bind_eq_some_iff.mp H
          obtain ⟨⟨t151, t152, t153⟩, A130, H⟩ := H
          replace H : (some (0, a0, a1, 0, 0, a2, wrap64 (a2 + 1), ([] : List Int), 0, 0, ([] : List (S69)), 0, a3, ([] : List Int), ([] : List (S59)), false, false, false, (-1), 0, 0, t151, t152, t153)) = some (r1, r2, r3, r4, r5, r6, r7, r8, r9, r10, r11, r12, r13, r14, r15, r16, r17, r18, r19, r20, r21, r22, r23, r24) := H
          have A13 := Aside0.mk A130
          clear A130
          simp only [Option.some.injEq, Prod.mk.injEq] at H
          obtain ⟨rfl, rfl, rfl, rfl, rfl, rfl, rfl, rfl, rfl, rfl, rfl, rfl, rfl, rfl, rfl, rfl, rfl, rfl, rfl, rfl, rfl, rfl, rfl, rfl⟩ := H
          go_enter Try.func6, Try.ntmps6
          go_wp2_with (first | ((with_reducible refine gate_store (t := 32) (p := 8) (v := .tmp 27) rfl ?_); refine store_wide rfl 32 _ _ rfl gb146 #[.int .i64 0, .int .i64 a0, .int .i64 a1, .int .i64 0, .int .i64 0, .int .i64 a2, .int .i64 (wrap64 (a2 + 1)), .slice none 0 0, .int .i64 0, .int .i64 0, .slice none 0 0, .int .i64 0, .int .i64 a3, .slice none 0 0, .slice none 0 0, .bool false, .bool false, .bool false, .int .i64 (-1), .int .i64 0, .int .i64 0, .int .i64 t151, .int .i64 t152, .int .i64 t153] (by kernel_rfl) (by kernel_rfl) 32 _ BK146.out (by kernel_rfl) (by kernel_rfl) (by kernel_rfl) ?_; intro w1_ ho1_ hk1_ hb1_; have n0_ := Aside0.mk ho1_; have n2_ := Aside0.mk (hb1_ _ _ HB.out GE146.out); clear BK146 HB ho1_ hk1_ hb1_; have BK146 := n0_; have HB := n2_; clear n0_ n2_) | ((with_reducible refine gate_store (t := 32) (p := 8) (v := .tmp 37) rfl ?_); refine store_wide rfl 32 _ _ rfl gb146 #[.int .i64 0, .int .i64 a0, .int .i64 a1, .int .i64 0, .int .i64 0, .int .i64 a2, .int .i64 (wrap64 (a2 + 1)), .slice none 0 0, .int .i64 0, .int .i64 0, .slice none 0 0, .int .i64 0, .int .i64 a3, .slice none 0 0, .slice none 0 0, .bool false, .bool false, .bool false, .int .i64 (-1), .int .i64 0, .int .i64 0, .int .i64 t151, .int .i64 t152, .int .i64 t153] (by kernel_rfl) (by kernel_rfl) 32 _ BK146.out (by kernel_rfl) (by kernel_rfl) (by kernel_rfl) ?_; intro w1_ ho1_ hk1_ hb1_; have n0_ := Aside0.mk ho1_; have n2_ := Aside0.mk (hb1_ _ _ HB.out GE146.out); clear BK146 HB ho1_ hk1_ hb1_; have BK146 := n0_; have HB := n2_; clear n0_ n2_) | ((with_reducible refine gate_dst (N := 8) rfl ?_); refine box_event ?hg (N := 8) ?hd (cs := #[.int .i64 0, .int .i64 0, .int .i64 0, .int .i64 0, .int .i64 0, .int .i64 0, .int .i64 0, .slice none 0 0, .int .i64 0, .int .i64 0, .slice none 0 0, .int .i64 0, .int .i64 0, .slice none 0 0, .slice none 0 0, .bool false, .bool false, .bool false, .int .i64 0, .int .i64 0, .int .i64 0, .int .i64 0, .int .i64 0, .int .i64 0]) (t := 32) ?hr ?_; (case hd => rfl); (case hg => rfl); (case hr => exact z_0); intro gb146 hg w14 hbox hb; have n0_ := Aside0.mk (below_step (z_1) hb); have n1_ := Aside0.mk (hbox); have n2_ := Aside0.mk ((z_2 : w.heap.size ≤ gb146)); have n3_ := Aside0.mk ((z_2 : w.heap.size ≤ gb146)); clear HB; have HB := n0_; have BK146 := n1_; have GW146 := n2_; have GE146 := n3_; clear n0_ n1_ n2_ n3_; clear hb hbox hg) | ((with_reducible refine gate_callee (f := 16) rfl ?_); refine goesL_ (some 10) rfl rfl Try.func16 (z_3) rfl #[.int .i64 a0] rfl (z_20) ?_; (with_reducible refine (impl_word.calls a0 true _ A5.out).mono ?_); rintro e w' ⟨rfl, ⟨nd, rfl⟩⟩; refine ⟨_, rfl, ?_⟩; (try (rw [drewN_self w14]; generalize hq_ : World.drewN w14 _ = w14; have n0_ : Aside0 (w14.heap[gb146]? = some (.cells #[.int .i64 0, .int .i64 0, .int .i64 0, .int .i64 0, .int .i64 0, .int .i64 0, .int .i64 0, .slice none 0 0, .int .i64 0, .int .i64 0, .slice none 0 0, .int .i64 0, .int .i64 0, .slice none 0 0, .slice none 0 0, .bool false, .bool false, .bool false, .int .i64 0, .int .i64 0, .int .i64 0, .int .i64 0, .int .i64 0, .int .i64 0] 32 (0, 0))) := ⟨z_43⟩; have n1_ : Aside0 (Below w.heap.size w w14) := ⟨z_45⟩; clear BK146 HB hq_; have BK146 := n0_; have HB := n1_; clear n0_ n1_))) | (go_at_call 17; (with_reducible refine (impl_portOk.calls a1 true _ A7.out).mono ?_); rintro e w' ⟨rfl, ⟨nd, rfl⟩⟩; (try (rw [drewN_self w14]; generalize hq_ : World.drewN w14 _ = w14; have n0_ : Aside0 (w14.heap[gb146]? = some (.cells #[.int .i64 0, .int .i64 0, .int .i64 0, .int .i64 0, .int .i64 0, .int .i64 0, .int .i64 0, .slice none 0 0, .int .i64 0, .int .i64 0, .slice none 0 0, .int .i64 0, .int .i64 0, .slice none 0 0, .slice none 0 0, .bool false, .bool false, .bool false, .int .i64 0, .int .i64 0, .int .i64 0, .int .i64 0, .int .i64 0, .int .i64 0] 32 (0, 0))) := ⟨z_43⟩; have n1_ : Aside0 (Below w.heap.size w w14) := ⟨z_45⟩; clear BK146 HB hq_; have BK146 := n0_; have HB := n1_; clear n0_ n1_))) | (go_at_call 16; (with_reducible refine (impl_word.calls a2 true _ A9.out).mono ?_); rintro e w' ⟨rfl, ⟨nd, rfl⟩⟩; (try (rw [drewN_self w14]; generalize hq_ : World.drewN w14 _ = w14; have n0_ : Aside0 (w14.heap[gb146]? = some (.cells #[.int .i64 0, .int .i64 0, .int .i64 0, .int .i64 0, .int .i64 0, .int .i64 0, .int .i64 0, .slice none 0 0, .int .i64 0, .int .i64 0, .slice none 0 0, .int .i64 0, .int .i64 0, .slice none 0 0, .slice none 0 0, .bool false, .bool false, .bool false, .int .i64 0, .int .i64 0, .int .i64 0, .int .i64 0, .int .i64 0, .int .i64 0] 32 (0, 0))) := ⟨z_43⟩; have n1_ : Aside0 (Below w.heap.size w w14) := ⟨z_45⟩; clear BK146 HB hq_; have BK146 := n0_; have HB := n1_; clear n0_ n1_))) | (go_at_call 18; (with_reducible refine (impl_in.calls a3 1 32 true _ A11.out).mono ?_); rintro e w' ⟨rfl, ⟨nd, rfl⟩⟩; (try (rw [drewN_self w14]; generalize hq_ : World.drewN w14 _ = w14; have n0_ : Aside0 (w14.heap[gb146]? = some (.cells #[.int .i64 0, .int .i64 0, .int .i64 0, .int .i64 0, .int .i64 0, .int .i64 0, .int .i64 0, .slice none 0 0, .int .i64 0, .int .i64 0, .slice none 0 0, .int .i64 0, .int .i64 0, .slice none 0 0, .slice none 0 0, .bool false, .bool false, .bool false, .int .i64 0, .int .i64 0, .int .i64 0, .int .i64 0, .int .i64 0, .int .i64 0] 32 (0, 0))) := ⟨z_43⟩; have n1_ : Aside0 (Below w.heap.size w w14) := ⟨z_45⟩; clear BK146 HB hq_; have BK146 := n0_; have HB := n1_; clear n0_ n1_))) | ((with_reducible refine gate_callee (f := 19) rfl ?_); refine goesL_ (some 36) rfl rfl Try.func19 (z_3) rfl #[.int .i64 0] rfl (z_20) ?_; (with_reducible refine (impl_ClockNew.calls 0 t151 t152 t153 _ A13.out).mono ?_); rintro e w15 ⟨rfl, hb⟩; refine ⟨_, rfl, ?_⟩; have n0_ := Aside0.mk (blk_below (g := gb146) (o := .cells #[.int .i64 0, .int .i64 0, .int .i64 0, .int .i64 0, .int .i64 0, .int .i64 0, .int .i64 0, .slice none 0 0, .int .i64 0, .int .i64 0, .slice none 0 0, .int .i64 0, .int .i64 0, .slice none 0 0, .slice none 0 0, .bool false, .bool false, .bool false, .int .i64 0, .int .i64 0, .int .i64 0, .int .i64 0, .int .i64 0, .int .i64 0] 32 (0, 0)) (z_42) hb); have n1_ := Aside0.mk (below_step (z_44) hb); clear BK146; clear HB; have BK146 := n0_; have HB := n1_; clear n0_ n1_; (try clear hb); (try clear hb2); (try clear hk); (try clear hi); obtain ⟨hcz16_0, hcz16_1, hcz16_2, hcz16_3, hcz16_4, hcz16_5, hcz16_6, hcz16_7, hcz16_8, hcz16_9, hcz16_10, hcz16_11, hcz16_12, hcz16_13, hcz16_14, hcz16_15, hcz16_16, hcz16_17, hcz16_18, hcz16_19, hcz16_20, hcz16_21, hcz16_22, hcz16_23, hfz16_0, hfz16_1, hfz16_2, hfz16_3, hfz16_4, hfz16_5, hfz16_6, hfz16_7, hfz16_8, hfz16_9, hfz16_10, hfz16_11, hfz16_12, hfz16_13, hfz16_14, hfz16_15, hfz16_16, hfz16_17, hfz16_18, hfz16_19, hfz16_20, hfz16_21, hfz16_22, hfz16_23⟩ := cells_24 BK146.out))
          refine bodyPost_ret (results_cell_row rfl _ _ gb146 32 #[.int .i64 0, .int .i64 a0, .int .i64 a1, .int .i64 0, .int .i64 0, .int .i64 a2, .int .i64 (wrap64 (a2 + 1)), .slice none 0 0, .int .i64 0, .int .i64 0, .slice none 0 0, .int .i64 0, .int .i64 a3, .slice none 0 0, .slice none 0 0, .bool false, .bool false, .bool false, .int .i64 (-1), .int .i64 0, .int .i64 0, .int .i64 t151, .int .i64 t152, .int .i64 t153] (0, 0) _ rfl BK146.out Try.underlying32 rfl (z_3)) rfl ?_
          exact ⟨_, _, _, _, z_4, z_41, z_41, z_41, z_41, z_44⟩
        · replace c12 := Bool.eq_false_iff.mpr c12
          subst c12
          rw [if_neg (show ¬ (false = true) by decide)] at H
          simp only [Option.some.injEq, Prod.mk.injEq] at H
          obtain ⟨rfl, rfl, rfl, rfl, rfl, rfl, rfl, rfl, rfl, rfl, rfl, rfl, rfl, rfl, rfl, rfl, rfl, rfl, rfl, rfl, rfl, rfl, rfl, rfl⟩ := H
          go_enter Try.func6, Try.ntmps6
          go_wp2_with (first | ((with_reducible refine gate_store (t := 32) (p := 8) (v := .tmp 27) rfl ?_); refine store_wide rfl 32 _ _ rfl gb146 #[.int .i64 0, .int .i64 0, .int .i64 0, .int .i64 0, .int .i64 0, .int .i64 0, .int .i64 0, .slice none 0 0, .int .i64 0, .int .i64 0, .slice none 0 0, .int .i64 0, .int .i64 0, .slice none 0 0, .slice none 0 0, .bool false, .bool false, .bool false, .int .i64 0, .int .i64 0, .int .i64 0, .int .i64 0, .int .i64 0, .int .i64 0] (by kernel_rfl) (by kernel_rfl) 32 _ BK146.out (by kernel_rfl) (by kernel_rfl) (by kernel_rfl) ?_; intro w1_ ho1_ hk1_ hb1_; have n0_ := Aside0.mk ho1_; have n2_ := Aside0.mk (hb1_ _ _ HB.out GE146.out); clear BK146 HB ho1_ hk1_ hb1_; have BK146 := n0_; have HB := n2_; clear n0_ n2_) | ((with_reducible refine gate_store (t := 32) (p := 8) (v := .tmp 37) rfl ?_); refine store_wide rfl 32 _ _ rfl gb146 #[.int .i64 0, .int .i64 0, .int .i64 0, .int .i64 0, .int .i64 0, .int .i64 0, .int .i64 0, .slice none 0 0, .int .i64 0, .int .i64 0, .slice none 0 0, .int .i64 0, .int .i64 0, .slice none 0 0, .slice none 0 0, .bool false, .bool false, .bool false, .int .i64 0, .int .i64 0, .int .i64 0, .int .i64 0, .int .i64 0, .int .i64 0] (by kernel_rfl) (by kernel_rfl) 32 _ BK146.out (by kernel_rfl) (by kernel_rfl) (by kernel_rfl) ?_; intro w1_ ho1_ hk1_ hb1_; have n0_ := Aside0.mk ho1_; have n2_ := Aside0.mk (hb1_ _ _ HB.out GE146.out); clear BK146 HB ho1_ hk1_ hb1_; have BK146 := n0_; have HB := n2_; clear n0_ n2_) | ((with_reducible refine gate_dst (N := 8) rfl ?_); refine box_event ?hg (N := 8) ?hd (cs := #[.int .i64 0, .int .i64 0, .int .i64 0, .int .i64 0, .int .i64 0, .int .i64 0, .int .i64 0, .slice none 0 0, .int .i64 0, .int .i64 0, .slice none 0 0, .int .i64 0, .int .i64 0, .slice none 0 0, .slice none 0 0, .bool false, .bool false, .bool false, .int .i64 0, .int .i64 0, .int .i64 0, .int .i64 0, .int .i64 0, .int .i64 0]) (t := 32) ?hr ?_; (case hd => rfl); (case hg => rfl); (case hr => exact z_0); intro gb146 hg w17 hbox hb; have n0_ := Aside0.mk (below_step (z_1) hb); have n1_ := Aside0.mk (hbox); have n2_ := Aside0.mk ((z_2 : w.heap.size ≤ gb146)); have n3_ := Aside0.mk ((z_2 : w.heap.size ≤ gb146)); clear HB; have HB := n0_; have BK146 := n1_; have GW146 := n2_; have GE146 := n3_; clear n0_ n1_ n2_ n3_; clear hb hbox hg) | ((with_reducible refine gate_callee (f := 16) rfl ?_); refine goesL_ (some 10) rfl rfl Try.func16 (z_3) rfl #[.int .i64 a0] rfl (z_20) ?_; (with_reducible refine (impl_word.calls a0 true _ A5.out).mono ?_); rintro e w' ⟨rfl, ⟨nd, rfl⟩⟩; refine ⟨_, rfl, ?_⟩; (try (rw [drewN_self w17]; generalize hq_ : World.drewN w17 _ = w17; have n0_ : Aside0 (w17.heap[gb146]? = some (.cells #[.int .i64 0, .int .i64 0, .int .i64 0, .int .i64 0, .int .i64 0, .int .i64 0, .int .i64 0, .slice none 0 0, .int .i64 0, .int .i64 0, .slice none 0 0, .int .i64 0, .int .i64 0, .slice none 0 0, .slice none 0 0, .bool false, .bool false, .bool false, .int .i64 0, .int .i64 0, .int .i64 0, .int .i64 0, .int .i64 0, .int .i64 0] 32 (0, 0))) := ⟨z_43⟩; have n1_ : Aside0 (Below w.heap.size w w17) := ⟨z_45⟩; clear BK146 HB hq_; have BK146 := n0_; have HB := n1_; clear n0_ n1_))) | (go_at_call 17; (with_reducible refine (impl_portOk.calls a1 true _ A7.out).mono ?_); rintro e w' ⟨rfl, ⟨nd, rfl⟩⟩; (try (rw [drewN_self w17]; generalize hq_ : World.drewN w17 _ = w17; have n0_ : Aside0 (w17.heap[gb146]? = some (.cells #[.int .i64 0, .int .i64 0, .int .i64 0, .int .i64 0, .int .i64 0, .int .i64 0, .int .i64 0, .slice none 0 0, .int .i64 0, .int .i64 0, .slice none 0 0, .int .i64 0, .int .i64 0, .slice none 0 0, .slice none 0 0, .bool false, .bool false, .bool false, .int .i64 0, .int .i64 0, .int .i64 0, .int .i64 0, .int .i64 0, .int .i64 0] 32 (0, 0))) := ⟨z_43⟩; have n1_ : Aside0 (Below w.heap.size w w17) := ⟨z_45⟩; clear BK146 HB hq_; have BK146 := n0_; have HB := n1_; clear n0_ n1_))) | (go_at_call 16; (with_reducible refine (impl_word.calls a2 true _ A9.out).mono ?_); rintro e w' ⟨rfl, ⟨nd, rfl⟩⟩; (try (rw [drewN_self w17]; generalize hq_ : World.drewN w17 _ = w17; have n0_ : Aside0 (w17.heap[gb146]? = some (.cells #[.int .i64 0, .int .i64 0, .int .i64 0, .int .i64 0, .int .i64 0, .int .i64 0, .int .i64 0, .slice none 0 0, .int .i64 0, .int .i64 0, .slice none 0 0, .int .i64 0, .int .i64 0, .slice none 0 0, .slice none 0 0, .bool false, .bool false, .bool false, .int .i64 0, .int .i64 0, .int .i64 0, .int .i64 0, .int .i64 0, .int .i64 0] 32 (0, 0))) := ⟨z_43⟩; have n1_ : Aside0 (Below w.heap.size w w17) := ⟨z_45⟩; clear BK146 HB hq_; have BK146 := n0_; have HB := n1_; clear n0_ n1_))) | (go_at_call 18; (with_reducible refine (impl_in.calls a3 1 32 false _ A11.out).mono ?_); rintro e w' ⟨rfl, ⟨nd, rfl⟩⟩; (try (rw [drewN_self w17]; generalize hq_ : World.drewN w17 _ = w17; have n0_ : Aside0 (w17.heap[gb146]? = some (.cells #[.int .i64 0, .int .i64 0, .int .i64 0, .int .i64 0, .int .i64 0, .int .i64 0, .int .i64 0, .slice none 0 0, .int .i64 0, .int .i64 0, .slice none 0 0, .int .i64 0, .int .i64 0, .slice none 0 0, .slice none 0 0, .bool false, .bool false, .bool false, .int .i64 0, .int .i64 0, .int .i64 0, .int .i64 0, .int .i64 0, .int .i64 0] 32 (0, 0))) := ⟨z_43⟩; have n1_ : Aside0 (Below w.heap.size w w17) := ⟨z_45⟩; clear BK146 HB hq_; have BK146 := n0_; have HB := n1_; clear n0_ n1_)); obtain ⟨hcz18_0, hcz18_1, hcz18_2, hcz18_3, hcz18_4, hcz18_5, hcz18_6, hcz18_7, hcz18_8, hcz18_9, hcz18_10, hcz18_11, hcz18_12, hcz18_13, hcz18_14, hcz18_15, hcz18_16, hcz18_17, hcz18_18, hcz18_19, hcz18_20, hcz18_21, hcz18_22, hcz18_23, hfz18_0, hfz18_1, hfz18_2, hfz18_3, hfz18_4, hfz18_5, hfz18_6, hfz18_7, hfz18_8, hfz18_9, hfz18_10, hfz18_11, hfz18_12, hfz18_13, hfz18_14, hfz18_15, hfz18_16, hfz18_17, hfz18_18, hfz18_19, hfz18_20, hfz18_21, hfz18_22, hfz18_23⟩ := cells_24 BK146.out))
          refine bodyPost_ret (results_cell_row rfl _ _ gb146 32 #[.int .i64 0, .int .i64 0, .int .i64 0, .int .i64 0, .int .i64 0, .int .i64 0, .int .i64 0, .slice none 0 0, .int .i64 0, .int .i64 0, .slice none 0 0, .int .i64 0, .int .i64 0, .slice none 0 0, .slice none 0 0, .bool false, .bool false, .bool false, .int .i64 0, .int .i64 0, .int .i64 0, .int .i64 0, .int .i64 0, .int .i64 0] (0, 0) _ rfl BK146.out Try.underlying32 rfl (z_3)) rfl ?_
          exact ⟨_, _, _, _, z_4, z_41, z_41, z_41, z_41, z_44⟩
      · replace c10 := Bool.eq_false_iff.mpr c10
        subst c10
        rw [if_neg (show ¬ (false = true) by decide)] at H
        simp only [Option.some.injEq, Prod.mk.injEq] at H
        obtain ⟨rfl, rfl, rfl, rfl, rfl, rfl, rfl, rfl, rfl, rfl, rfl, rfl, rfl, rfl, rfl, rfl, rfl, rfl, rfl, rfl, rfl, rfl, rfl, rfl⟩ := H
        go_enter Try.func6, Try.ntmps6
        go_wp2_with (first | ((with_reducible refine gate_store (t := 32) (p := 8) (v := .tmp 27) rfl ?_); refine store_wide rfl 32 _ _ rfl gb146 #[.int .i64 0, .int .i64 0, .int .i64 0, .int .i64 0, .int .i64 0, .int .i64 0, .int .i64 0, .slice none 0 0, .int .i64 0, .int .i64 0, .slice none 0 0, .int .i64 0, .int .i64 0, .slice none 0 0, .slice none 0 0, .bool false, .bool false, .bool false, .int .i64 0, .int .i64 0, .int .i64 0, .int .i64 0, .int .i64 0, .int .i64 0] (by kernel_rfl) (by kernel_rfl) 32 _ BK146.out (by kernel_rfl) (by kernel_rfl) (by kernel_rfl) ?_; intro w1_ ho1_ hk1_ hb1_; have n0_ := Aside0.mk ho1_; have n2_ := Aside0.mk (hb1_ _ _ HB.out GE146.out); clear BK146 HB ho1_ hk1_ hb1_; have BK146 := n0_; have HB := n2_; clear n0_ n2_) | ((with_reducible refine gate_store (t := 32) (p := 8) (v := .tmp 37) rfl ?_); refine store_wide rfl 32 _ _ rfl gb146 #[.int .i64 0, .int .i64 0, .int .i64 0, .int .i64 0, .int .i64 0, .int .i64 0, .int .i64 0, .slice none 0 0, .int .i64 0, .int .i64 0, .slice none 0 0, .int .i64 0, .int .i64 0, .slice none 0 0, .slice none 0 0, .bool false, .bool false, .bool false, .int .i64 0, .int .i64 0, .int .i64 0, .int .i64 0, .int .i64 0, .int .i64 0] (by kernel_rfl) (by kernel_rfl) 32 _ BK146.out (by kernel_rfl) (by kernel_rfl) (by kernel_rfl) ?_; intro w1_ ho1_ hk1_ hb1_; have n0_ := Aside0.mk ho1_; have n2_ := Aside0.mk (hb1_ _ _ HB.out GE146.out); clear BK146 HB ho1_ hk1_ hb1_; have BK146 := n0_; have HB := n2_; clear n0_ n2_) | ((with_reducible refine gate_dst (N := 8) rfl ?_); refine box_event ?hg (N := 8) ?hd (cs := #[.int .i64 0, .int .i64 0, .int .i64 0, .int .i64 0, .int .i64 0, .int .i64 0, .int .i64 0, .slice none 0 0, .int .i64 0, .int .i64 0, .slice none 0 0, .int .i64 0, .int .i64 0, .slice none 0 0, .slice none 0 0, .bool false, .bool false, .bool false, .int .i64 0, .int .i64 0, .int .i64 0, .int .i64 0, .int .i64 0, .int .i64 0]) (t := 32) ?hr ?_; (case hd => rfl); (case hg => rfl); (case hr => exact z_0); intro gb146 hg w19 hbox hb; have n0_ := Aside0.mk (below_step (z_1) hb); have n1_ := Aside0.mk (hbox); have n2_ := Aside0.mk ((z_2 : w.heap.size ≤ gb146)); have n3_ := Aside0.mk ((z_2 : w.heap.size ≤ gb146)); clear HB; have HB := n0_; have BK146 := n1_; have GW146 := n2_; have GE146 := n3_; clear n0_ n1_ n2_ n3_; clear hb hbox hg) | ((with_reducible refine gate_callee (f := 16) rfl ?_); refine goesL_ (some 10) rfl rfl Try.func16 (z_3) rfl #[.int .i64 a0] rfl (z_20) ?_; (with_reducible refine (impl_word.calls a0 true _ A5.out).mono ?_); rintro e w' ⟨rfl, ⟨nd, rfl⟩⟩; refine ⟨_, rfl, ?_⟩; (try (rw [drewN_self w19]; generalize hq_ : World.drewN w19 _ = w19; have n0_ : Aside0 (w19.heap[gb146]? = some (.cells #[.int .i64 0, .int .i64 0, .int .i64 0, .int .i64 0, .int .i64 0, .int .i64 0, .int .i64 0, .slice none 0 0, .int .i64 0, .int .i64 0, .slice none 0 0, .int .i64 0, .int .i64 0, .slice none 0 0, .slice none 0 0, .bool false, .bool false, .bool false, .int .i64 0, .int .i64 0, .int .i64 0, .int .i64 0, .int .i64 0, .int .i64 0] 32 (0, 0))) := ⟨z_43⟩; have n1_ : Aside0 (Below w.heap.size w w19) := ⟨z_45⟩; clear BK146 HB hq_; have BK146 := n0_; have HB := n1_; clear n0_ n1_))) | (go_at_call 17; (with_reducible refine (impl_portOk.calls a1 true _ A7.out).mono ?_); rintro e w' ⟨rfl, ⟨nd, rfl⟩⟩; (try (rw [drewN_self w19]; generalize hq_ : World.drewN w19 _ = w19; have n0_ : Aside0 (w19.heap[gb146]? = some (.cells #[.int .i64 0, .int .i64 0, .int .i64 0, .int .i64 0, .int .i64 0, .int .i64 0, .int .i64 0, .slice none 0 0, .int .i64 0, .int .i64 0, .slice none 0 0, .int .i64 0, .int .i64 0, .slice none 0 0, .slice none 0 0, .bool false, .bool false, .bool false, .int .i64 0, .int .i64 0, .int .i64 0, .int .i64 0, .int .i64 0, .int .i64 0] 32 (0, 0))) := ⟨z_43⟩; have n1_ : Aside0 (Below w.heap.size w w19) := ⟨z_45⟩; clear BK146 HB hq_; have BK146 := n0_; have HB := n1_; clear n0_ n1_))) | (go_at_call 16; (with_reducible refine (impl_word.calls a2 false _ A9.out).mono ?_); rintro e w' ⟨rfl, ⟨nd, rfl⟩⟩; (try (rw [drewN_self w19]; generalize hq_ : World.drewN w19 _ = w19; have n0_ : Aside0 (w19.heap[gb146]? = some (.cells #[.int .i64 0, .int .i64 0, .int .i64 0, .int .i64 0, .int .i64 0, .int .i64 0, .int .i64 0, .slice none 0 0, .int .i64 0, .int .i64 0, .slice none 0 0, .int .i64 0, .int .i64 0, .slice none 0 0, .slice none 0 0, .bool false, .bool false, .bool false, .int .i64 0, .int .i64 0, .int .i64 0, .int .i64 0, .int .i64 0, .int .i64 0] 32 (0, 0))) := ⟨z_43⟩; have n1_ : Aside0 (Below w.heap.size w w19) := ⟨z_45⟩; clear BK146 HB hq_; have BK146 := n0_; have HB := n1_; clear n0_ n1_)); obtain ⟨hcz20_0, hcz20_1, hcz20_2, hcz20_3, hcz20_4, hcz20_5, hcz20_6, hcz20_7, hcz20_8, hcz20_9, hcz20_10, hcz20_11, hcz20_12, hcz20_13, hcz20_14, hcz20_15, hcz20_16, hcz20_17, hcz20_18, hcz20_19, hcz20_20, hcz20_21, hcz20_22, hcz20_23, hfz20_0, hfz20_1, hfz20_2, hfz20_3, hfz20_4, hfz20_5, hfz20_6, hfz20_7, hfz20_8, hfz20_9, hfz20_10, hfz20_11, hfz20_12, hfz20_13, hfz20_14, hfz20_15, hfz20_16, hfz20_17, hfz20_18, hfz20_19, hfz20_20, hfz20_21, hfz20_22, hfz20_23⟩ := cells_24 BK146.out))
        refine bodyPost_ret (results_cell_row rfl _ _ gb146 32 #[.int .i64 0, .int .i64 0, .int .i64 0, .int .i64 0, .int .i64 0, .int .i64 0, .int .i64 0, .slice none 0 0, .int .i64 0, .int .i64 0, .slice none 0 0, .int .i64 0, .int .i64 0, .slice none 0 0, .slice none 0 0, .bool false, .bool false, .bool false, .int .i64 0, .int .i64 0, .int .i64 0, .int .i64 0, .int .i64 0, .int .i64 0] (0, 0) _ rfl BK146.out Try.underlying32 rfl (z_3)) rfl ?_
        exact ⟨_, _, _, _, z_4, z_41, z_41, z_41, z_41, z_44⟩
    · replace c8 := Bool.eq_false_iff.mpr c8
      subst c8
      rw [if_neg (show ¬ (false = true) by decide)] at H
      simp only [Option.some.injEq, Prod.mk.injEq] at H
      obtain ⟨rfl, rfl, rfl, rfl, rfl, rfl, rfl, rfl, rfl, rfl, rfl, rfl, rfl, rfl, rfl, rfl, rfl, rfl, rfl, rfl, rfl, rfl, rfl, rfl⟩ := H
      go_enter Try.func6, Try.ntmps6
      go_wp2_with (first | ((with_reducible refine gate_store (t := 32) (p := 8) (v := .tmp 27) rfl ?_); refine store_wide rfl 32 _ _ rfl gb146 #[.int .i64 0, .int .i64 0, .int .i64 0, .int .i64 0, .int .i64 0, .int .i64 0, .int .i64 0, .slice none 0 0, .int .i64 0, .int .i64 0, .slice none 0 0, .int .i64 0, .int .i64 0, .slice none 0 0, .slice none 0 0, .bool false, .bool false, .bool false, .int .i64 0, .int .i64 0, .int .i64 0, .int .i64 0, .int .i64 0, .int .i64 0] (by kernel_rfl) (by kernel_rfl) 32 _ BK146.out (by kernel_rfl) (by kernel_rfl) (by kernel_rfl) ?_; intro w1_ ho1_ hk1_ hb1_; have n0_ := Aside0.mk ho1_; have n2_ := Aside0.mk (hb1_ _ _ HB.out GE146.out); clear BK146 HB ho1_ hk1_ hb1_; have BK146 := n0_; have HB := n2_; clear n0_ n2_) | ((with_reducible refine gate_store (t := 32) (p := 8) (v := .tmp 37) rfl ?_); refine store_wide rfl 32 _ _ rfl gb146 #[.int .i64 0, .int .i64 0, .int .i64 0, .int .i64 0, .int .i64 0, .int .i64 0, .int .i64 0, .slice none 0 0, .int .i64 0, .int .i64 0, .slice none 0 0, .int .i64 0, .int .i64 0, .slice none 0 0, .slice none 0 0, .bool false, .bool false, .bool false, .int .i64 0, .int .i64 0, .int .i64 0, .int .i64 0, .int .i64 0, .int .i64 0] (by kernel_rfl) (by kernel_rfl) 32 _ BK146.out (by kernel_rfl) (by kernel_rfl) (by kernel_rfl) ?_; intro w1_ ho1_ hk1_ hb1_; have n0_ := Aside0.mk ho1_; have n2_ := Aside0.mk (hb1_ _ _ HB.out GE146.out); clear BK146 HB ho1_ hk1_ hb1_; have BK146 := n0_; have HB := n2_; clear n0_ n2_) | ((with_reducible refine gate_dst (N := 8) rfl ?_); refine box_event ?hg (N := 8) ?hd (cs := #[.int .i64 0, .int .i64 0, .int .i64 0, .int .i64 0, .int .i64 0, .int .i64 0, .int .i64 0, .slice none 0 0, .int .i64 0, .int .i64 0, .slice none 0 0, .int .i64 0, .int .i64 0, .slice none 0 0, .slice none 0 0, .bool false, .bool false, .bool false, .int .i64 0, .int .i64 0, .int .i64 0, .int .i64 0, .int .i64 0, .int .i64 0]) (t := 32) ?hr ?_; (case hd => rfl); (case hg => rfl); (case hr => exact z_0); intro gb146 hg w21 hbox hb; have n0_ := Aside0.mk (below_step (z_1) hb); have n1_ := Aside0.mk (hbox); have n2_ := Aside0.mk ((z_2 : w.heap.size ≤ gb146)); have n3_ := Aside0.mk ((z_2 : w.heap.size ≤ gb146)); clear HB; have HB := n0_; have BK146 := n1_; have GW146 := n2_; have GE146 := n3_; clear n0_ n1_ n2_ n3_; clear hb hbox hg) | ((with_reducible refine gate_callee (f := 16) rfl ?_); refine goesL_ (some 10) rfl rfl Try.func16 (z_3) rfl #[.int .i64 a0] rfl (z_20) ?_; (with_reducible refine (impl_word.calls a0 true _ A5.out).mono ?_); rintro e w' ⟨rfl, ⟨nd, rfl⟩⟩; refine ⟨_, rfl, ?_⟩; (try (rw [drewN_self w21]; generalize hq_ : World.drewN w21 _ = w21; have n0_ : Aside0 (w21.heap[gb146]? = some (.cells #[.int .i64 0, .int .i64 0, .int .i64 0, .int .i64 0, .int .i64 0, .int .i64 0, .int .i64 0, .slice none 0 0, .int .i64 0, .int .i64 0, .slice none 0 0, .int .i64 0, .int .i64 0, .slice none 0 0, .slice none 0 0, .bool false, .bool false, .bool false, .int .i64 0, .int .i64 0, .int .i64 0, .int .i64 0, .int .i64 0, .int .i64 0] 32 (0, 0))) := ⟨z_43⟩; have n1_ : Aside0 (Below w.heap.size w w21) := ⟨z_45⟩; clear BK146 HB hq_; have BK146 := n0_; have HB := n1_; clear n0_ n1_))) | (go_at_call 17; (with_reducible refine (impl_portOk.calls a1 false _ A7.out).mono ?_); rintro e w' ⟨rfl, ⟨nd, rfl⟩⟩; (try (rw [drewN_self w21]; generalize hq_ : World.drewN w21 _ = w21; have n0_ : Aside0 (w21.heap[gb146]? = some (.cells #[.int .i64 0, .int .i64 0, .int .i64 0, .int .i64 0, .int .i64 0, .int .i64 0, .int .i64 0, .slice none 0 0, .int .i64 0, .int .i64 0, .slice none 0 0, .int .i64 0, .int .i64 0, .slice none 0 0, .slice none 0 0, .bool false, .bool false, .bool false, .int .i64 0, .int .i64 0, .int .i64 0, .int .i64 0, .int .i64 0, .int .i64 0] 32 (0, 0))) := ⟨z_43⟩; have n1_ : Aside0 (Below w.heap.size w w21) := ⟨z_45⟩; clear BK146 HB hq_; have BK146 := n0_; have HB := n1_; clear n0_ n1_)); obtain ⟨hcz22_0, hcz22_1, hcz22_2, hcz22_3, hcz22_4, hcz22_5, hcz22_6, hcz22_7, hcz22_8, hcz22_9, hcz22_10, hcz22_11, hcz22_12, hcz22_13, hcz22_14, hcz22_15, hcz22_16, hcz22_17, hcz22_18, hcz22_19, hcz22_20, hcz22_21, hcz22_22, hcz22_23, hfz22_0, hfz22_1, hfz22_2, hfz22_3, hfz22_4, hfz22_5, hfz22_6, hfz22_7, hfz22_8, hfz22_9, hfz22_10, hfz22_11, hfz22_12, hfz22_13, hfz22_14, hfz22_15, hfz22_16, hfz22_17, hfz22_18, hfz22_19, hfz22_20, hfz22_21, hfz22_22, hfz22_23⟩ := cells_24 BK146.out))
      refine bodyPost_ret (results_cell_row rfl _ _ gb146 32 #[.int .i64 0, .int .i64 0, .int .i64 0, .int .i64 0, .int .i64 0, .int .i64 0, .int .i64 0, .slice none 0 0, .int .i64 0, .int .i64 0, .slice none 0 0, .int .i64 0, .int .i64 0, .slice none 0 0, .slice none 0 0, .bool false, .bool false, .bool false, .int .i64 0, .int .i64 0, .int .i64 0, .int .i64 0, .int .i64 0, .int .i64 0] (0, 0) _ rfl BK146.out Try.underlying32 rfl (z_3)) rfl ?_
      exact ⟨_, _, _, _, z_4, z_41, z_41, z_41, z_41, z_44⟩
  · replace c6 := Bool.eq_false_iff.mpr c6
    subst c6
    rw [if_neg (show ¬ (false = true) by decide)] at H
    simp only [Option.some.injEq, Prod.mk.injEq] at H
    obtain ⟨rfl, rfl, rfl, rfl, rfl, rfl, rfl, rfl, rfl, rfl, rfl, rfl, rfl, rfl, rfl, rfl, rfl, rfl, rfl, rfl, rfl, rfl, rfl, rfl⟩ := H
    go_enter Try.func6, Try.ntmps6
    go_wp2_with (first | ((with_reducible refine gate_store (t := 32) (p := 8) (v := .tmp 27) rfl ?_); refine store_wide rfl 32 _ _ rfl gb146 #[.int .i64 0, .int .i64 0, .int .i64 0, .int .i64 0, .int .i64 0, .int .i64 0, .int .i64 0, .slice none 0 0, .int .i64 0, .int .i64 0, .slice none 0 0, .int .i64 0, .int .i64 0, .slice none 0 0, .slice none 0 0, .bool false, .bool false, .bool false, .int .i64 0, .int .i64 0, .int .i64 0, .int .i64 0, .int .i64 0, .int .i64 0] (by kernel_rfl) (by kernel_rfl) 32 _ BK146.out (by kernel_rfl) (by kernel_rfl) (by kernel_rfl) ?_; intro w1_ ho1_ hk1_ hb1_; have n0_ := Aside0.mk ho1_; have n2_ := Aside0.mk (hb1_ _ _ HB.out GE146.out); clear BK146 HB ho1_ hk1_ hb1_; have BK146 := n0_; have HB := n2_; clear n0_ n2_) | ((with_reducible refine gate_store (t := 32) (p := 8) (v := .tmp 37) rfl ?_); refine store_wide rfl 32 _ _ rfl gb146 #[.int .i64 0, .int .i64 0, .int .i64 0, .int .i64 0, .int .i64 0, .int .i64 0, .int .i64 0, .slice none 0 0, .int .i64 0, .int .i64 0, .slice none 0 0, .int .i64 0, .int .i64 0, .slice none 0 0, .slice none 0 0, .bool false, .bool false, .bool false, .int .i64 0, .int .i64 0, .int .i64 0, .int .i64 0, .int .i64 0, .int .i64 0] (by kernel_rfl) (by kernel_rfl) 32 _ BK146.out (by kernel_rfl) (by kernel_rfl) (by kernel_rfl) ?_; intro w1_ ho1_ hk1_ hb1_; have n0_ := Aside0.mk ho1_; have n2_ := Aside0.mk (hb1_ _ _ HB.out GE146.out); clear BK146 HB ho1_ hk1_ hb1_; have BK146 := n0_; have HB := n2_; clear n0_ n2_) | ((with_reducible refine gate_dst (N := 8) rfl ?_); refine box_event ?hg (N := 8) ?hd (cs := #[.int .i64 0, .int .i64 0, .int .i64 0, .int .i64 0, .int .i64 0, .int .i64 0, .int .i64 0, .slice none 0 0, .int .i64 0, .int .i64 0, .slice none 0 0, .int .i64 0, .int .i64 0, .slice none 0 0, .slice none 0 0, .bool false, .bool false, .bool false, .int .i64 0, .int .i64 0, .int .i64 0, .int .i64 0, .int .i64 0, .int .i64 0]) (t := 32) ?hr ?_; (case hd => rfl); (case hg => rfl); (case hr => exact z_0); intro gb146 hg w23 hbox hb; have n0_ := Aside0.mk (below_step (z_1) hb); have n1_ := Aside0.mk (hbox); have n2_ := Aside0.mk ((z_2 : w.heap.size ≤ gb146)); have n3_ := Aside0.mk ((z_2 : w.heap.size ≤ gb146)); clear HB; have HB := n0_; have BK146 := n1_; have GW146 := n2_; have GE146 := n3_; clear n0_ n1_ n2_ n3_; clear hb hbox hg) | ((with_reducible refine gate_callee (f := 16) rfl ?_); refine goesL_ (some 10) rfl rfl Try.func16 (z_3) rfl #[.int .i64 a0] rfl (z_20) ?_; (with_reducible refine (impl_word.calls a0 false _ A5.out).mono ?_); rintro e w' ⟨rfl, ⟨nd, rfl⟩⟩; refine ⟨_, rfl, ?_⟩; (try (rw [drewN_self w23]; generalize hq_ : World.drewN w23 _ = w23; have n0_ : Aside0 (w23.heap[gb146]? = some (.cells #[.int .i64 0, .int .i64 0, .int .i64 0, .int .i64 0, .int .i64 0, .int .i64 0, .int .i64 0, .slice none 0 0, .int .i64 0, .int .i64 0, .slice none 0 0, .int .i64 0, .int .i64 0, .slice none 0 0, .slice none 0 0, .bool false, .bool false, .bool false, .int .i64 0, .int .i64 0, .int .i64 0, .int .i64 0, .int .i64 0, .int .i64 0] 32 (0, 0))) := ⟨z_43⟩; have n1_ : Aside0 (Below w.heap.size w w23) := ⟨z_45⟩; clear BK146 HB hq_; have BK146 := n0_; have HB := n1_; clear n0_ n1_)); obtain ⟨hcz24_0, hcz24_1, hcz24_2, hcz24_3, hcz24_4, hcz24_5, hcz24_6, hcz24_7, hcz24_8, hcz24_9, hcz24_10, hcz24_11, hcz24_12, hcz24_13, hcz24_14, hcz24_15, hcz24_16, hcz24_17, hcz24_18, hcz24_19, hcz24_20, hcz24_21, hcz24_22, hcz24_23, hfz24_0, hfz24_1, hfz24_2, hfz24_3, hfz24_4, hfz24_5, hfz24_6, hfz24_7, hfz24_8, hfz24_9, hfz24_10, hfz24_11, hfz24_12, hfz24_13, hfz24_14, hfz24_15, hfz24_16, hfz24_17, hfz24_18, hfz24_19, hfz24_20, hfz24_21, hfz24_22, hfz24_23⟩ := cells_24 BK146.out))
    refine bodyPost_ret (results_cell_row rfl _ _ gb146 32 #[.int .i64 0, .int .i64 0, .int .i64 0, .int .i64 0, .int .i64 0, .int .i64 0, .int .i64 0, .slice none 0 0, .int .i64 0, .int .i64 0, .slice none 0 0, .int .i64 0, .int .i64 0, .slice none 0 0, .slice none 0 0, .bool false, .bool false, .bool false, .int .i64 0, .int .i64 0, .int .i64 0, .int .i64 0, .int .i64 0, .int .i64 0] (0, 0) _ rfl BK146.out Try.underlying32 rfl (z_3)) rfl ?_
    exact ⟨_, _, _, _, z_4, z_41, z_41, z_41, z_41, z_44⟩

/-! ### laws_eqByteS: function 43 -/
def laws_eqByteS.l0 : Nat → List Int → List Int → Int → Option (Bool)
  | 0, _, _, _ => none
  | k + 1, x0, x1, x5 => if x5 < (x0.length : Int) then (if 0 ≤ x5 then (if x5 < (x1.length : Int) then (if (rd x0 x5) = (rd x1 x5) then (laws_eqByteS.l0 k x0 x1 (wrap64 (x5 + 1))) else (some false)) else (none)) else (none)) else (some true)
def laws_eqByteS.f (k : Nat) (l0 : List Int) (l1 : List Int) : Option (Bool) := if (l0.length : Int) = (l1.length : Int) then (laws_eqByteS.l0 k l0 l1 0) else (some false)
theorem laws_eqByteS.mono_l : ∀ k, (∀ y0 y1 y2, LeO (laws_eqByteS.l0 k y0 y1 y2) (laws_eqByteS.l0 (k + 1) y0 y1 y2))
  | 0 => fun _ _ _ r h => by simp [laws_eqByteS.l0] at h
  | k + 1 => by
    have ih0 := laws_eqByteS.mono_l k
    · intro y0 y1 y2
      unfold laws_eqByteS.l0
      repeat' first
      | (with_reducible exact ih0 _ _ _)
      | (with_reducible exact LeO.refl _)
      | (with_reducible exact LeO.none _)
      | (with_reducible refine LeO.ite ?_ ?_)
      | (with_reducible refine LeO.bind ?_ (fun _ => ?_))
      | exact ih0 _ _ _
      | exact LeO.none _
      | refine LeO.ite ?_ ?_
      | refine LeO.bind ?_ (fun _ => ?_)
theorem laws_eqByteS.mono : ∀ a0 a1 k, LeO (laws_eqByteS.f k a0 a1) (laws_eqByteS.f (k + 1) a0 a1) := by
  intro a0 a1 k
  have ih0 := laws_eqByteS.mono_l k
  unfold laws_eqByteS.f
  repeat' first
      | (with_reducible exact ih0 _ _ _)
      | (with_reducible exact LeO.refl _)
      | (with_reducible exact LeO.none _)
      | (with_reducible refine LeO.ite ?_ ?_)
      | (with_reducible refine LeO.bind ?_ (fun _ => ?_))
      | exact ih0 _ _ _
      | exact LeO.none _
      | refine LeO.ite ?_ ?_
      | refine LeO.bind ?_ (fun _ => ?_)
set_option maxHeartbeats 8000000 in
set_option maxRecDepth 100000 in
theorem laws_eqByteS.calls (k : Nat) (A0 : Option Addr) (c0 : Nat) (l0 : List Int) (A1 : Option Addr) (c1 : Nat) (l1 : List Int) (r : Bool) (w : World) (hr0 : Kd.C (Kd.int .u8) w A0 l0.length l0) (hc0 : l0.length ≤ c0) (hr1 : Kd.C (Kd.int .u8) w A1 l1.length l1) (hc1 : l1.length ≤ c1) (h : laws_eqByteS.f k l0 l1 = some r) :
    Calls Try.prog 43 #[.slice A0 l0.length c0, .slice A1 l1.length c1] w fun e w' => e = .returned (.bool r) ∧ Drawn0 w w' := by
  have HR0 := Aside0.mk hr0
  have HC0 := Aside0.mk hc0
  clear hr0 hc0
  have HR1 := Aside0.mk hr1
  have HC1 := Aside0.mk hc1
  clear hr1 hc1
  have H : (if (l0.length : Int) = (l1.length : Int) then (laws_eqByteS.l0 k l0 l1 0) else (some false)) = some r := h
  clear h
  by_cases c3 : (l0.length : Int) = (l1.length : Int)
  · rw [if_pos c3] at H
    have c3b0 : ((l0.length : Int) == (l1.length : Int)) = true := beq_iff_eq.mpr c3
    have c3b1 : ((l0.length : Int) != (l1.length : Int)) = false := bne_eq_false_iff_eq.mpr c3
    have c3b2 : (l0.length == l1.length) = true := z_47
    clear c3
    have H' := Aside0.mk H
    clear H
    go_enter Try.func43, Try.ntmps43
    go_wp2
    repeat (go_quiet (fail); try go_wp2)
    go_loopg [5] k (fun kq v5 w' => ∃ (x5_1 : Int), v5 = .int .i64 x5_1 ∧ Aside0 (laws_eqByteS.l0 kq l0 l1 x5_1 = some r) ∧ Aside0 (kq ≤ k) ∧ Drawn0 w w')
    case atStart => exact ⟨(0), (z_5), H', ⟨Nat.le_refl _⟩, z_6⟩
    case round =>
      clear H'
      try clear c3
      try clear c3b0
      try clear c3b1
      try clear c3b2
      obtain ⟨x5_1, rfl, HA, HK1, ⟨m1, rfl⟩⟩ := hrel
      cases gk with
      | zero => exact absurd HA.out (by simp [laws_eqByteS.l0])
      | succ k1 =>
        have H := HA.out
        clear HA
        simp only [laws_eqByteS.l0] at H
        by_cases c4 : x5_1 < (l0.length : Int)
        rw [if_pos c4] at H
        have c4b0 : decide (x5_1 < (l0.length : Int)) = true := decide_eq_true c4
        clear c4
        by_cases c5 : 0 ≤ x5_1
        rw [if_pos c5] at H
        have c5b0 : decide (0 ≤ x5_1) = true := decide_eq_true c5
        clear c5
        by_cases c6 : x5_1 < (l1.length : Int)
        rw [if_pos c6] at H
        have c6b0 : decide (x5_1 < (l1.length : Int)) = true := decide_eq_true c6
        clear c6
        by_cases c7 : (rd l0 x5_1) = (rd l1 x5_1)
        rw [if_pos c7] at H
        have c7b0 : ((rd l0 x5_1) == (rd l1 x5_1)) = true := beq_iff_eq.mpr c7
        have c7b1 : ((rd l0 x5_1) != (rd l1 x5_1)) = false := bne_eq_false_iff_eq.mpr c7
        clear c7
        have H' := Aside0.mk H
        clear H
        have p154 : 0 ≤ (x5_1 : Int) := of_decide_eq_true (z_10)
        have q154 : x5_1 < (l0.length : Int) := of_decide_eq_true (z_10)
        obtain ⟨ad154, e154, hx154_0⟩ := Kd.at_int HR0.out x5_1 p154 q154
        cases e154
        replace p154 := eq_true p154
        replace q154 := eq_true q154
        have p155 : 0 ≤ (x5_1 : Int) := of_decide_eq_true (z_10)
        have q155 : x5_1 < (l1.length : Int) := of_decide_eq_true (z_10)
        obtain ⟨ad155, e155, hx155_0⟩ := Kd.at_int HR1.out x5_1 p155 q155
        cases e155
        replace p155 := eq_true p155
        replace q155 := eq_true q155
        rotate_left
        rw [if_neg c7] at H
        have c7b0 : ((rd l0 x5_1) == (rd l1 x5_1)) = false := beq_eq_false_iff_ne.mpr c7
        have c7b1 : ((rd l0 x5_1) != (rd l1 x5_1)) = true := bne_iff_ne.mpr c7
        obtain rfl := Option.some.inj H
        have p154 : 0 ≤ (x5_1 : Int) := of_decide_eq_true (z_10)
        have q154 : x5_1 < (l0.length : Int) := of_decide_eq_true (z_10)
        obtain ⟨ad154, e154, hx154_0⟩ := Kd.at_int HR0.out x5_1 p154 q154
        cases e154
        replace p154 := eq_true p154
        replace q154 := eq_true q154
        have p155 : 0 ≤ (x5_1 : Int) := of_decide_eq_true (z_10)
        have q155 : x5_1 < (l1.length : Int) := of_decide_eq_true (z_10)
        obtain ⟨ad155, e155, hx155_0⟩ := Kd.at_int HR1.out x5_1 p155 q155
        cases e155
        replace p155 := eq_true p155
        replace q155 := eq_true q155
        rotate_left
        rw [if_neg c6] at H
        exact absurd H (by simp)
        rw [if_neg c5] at H
        exact absurd H (by simp)
        rw [if_neg c4] at H
        have c4b0 : decide (x5_1 < (l0.length : Int)) = false := decide_eq_false c4
        clear c4
        obtain rfl := Option.some.inj H
        rotate_left
        all_goals (
         go_wp2
         repeat (go_quiet (fail); try go_wp2)
         first
          | (go_roundg k1
             case measure => have := HK1.out; omega
             case rel => exact ⟨(wrap64 (x5_1 + 1)), (z_5), H', ⟨z_48⟩, z_6⟩)
          | (go_ret
             exact ⟨z_5, z_6⟩))
  · rw [if_neg c3] at H
    have c3b0 : ((l0.length : Int) == (l1.length : Int)) = false := beq_eq_false_iff_ne.mpr c3
    have c3b1 : ((l0.length : Int) != (l1.length : Int)) = true := bne_iff_ne.mpr c3
    have c3b2 : (l0.length == l1.length) = false := z_47
    obtain rfl := Option.some.inj H
    go_enter Try.func43, Try.ntmps43
    go_wp2
    repeat (go_quiet (fail); try go_wp2)
    go_ret
    exact ⟨z_5, z_6⟩

/-! ### laws_eqRange: function 56 -/
def laws_eqRange.f (a0_0 : Int) (a0_1 : Int) (a1_0 : Int) (a1_1 : Int) : Option (Bool) := if a0_0 = a1_0 then (if a0_1 = a1_1 then (some true) else (some false)) else (some false)
set_option maxHeartbeats 8000000 in
set_option maxRecDepth 100000 in
theorem laws_eqRange.calls (a0_0 : Int) (a0_1 : Int) (a1_0 : Int) (a1_1 : Int) (r : Bool) (w : World) (h : laws_eqRange.f a0_0 a0_1 a1_0 a1_1 = some r) :
    Calls Try.prog 56 #[.agg #[.int .i64 a0_0, .int .i64 a0_1], .agg #[.int .i64 a1_0, .int .i64 a1_1]] w fun e w' => e = .returned (.bool r) ∧ Below w.heap.size w w' := by
  have hu69 := Try.underlying69
  have HB := Aside0.mk (Below.refl w.heap.size w)
  have H : (if a0_0 = a1_0 then (if a0_1 = a1_1 then (some true) else (some false)) else (some false)) = some r := h
  clear h
  by_cases c3 : a0_0 = a1_0
  rw [if_pos c3] at H
  have c3b0 : (a0_0 == a1_0) = true := beq_iff_eq.mpr c3
  have c3b1 : (a0_0 != a1_0) = false := bne_eq_false_iff_eq.mpr c3
  clear c3
  by_cases c4 : a0_1 = a1_1
  rw [if_pos c4] at H
  have c4b0 : (a0_1 == a1_1) = true := beq_iff_eq.mpr c4
  have c4b1 : (a0_1 != a1_1) = false := bne_eq_false_iff_eq.mpr c4
  clear c4
  obtain rfl := Option.some.inj H
  rotate_left
  rw [if_neg c4] at H
  have c4b0 : (a0_1 == a1_1) = false := beq_eq_false_iff_ne.mpr c4
  have c4b1 : (a0_1 != a1_1) = true := bne_iff_ne.mpr c4
  obtain rfl := Option.some.inj H
  rotate_left
  rw [if_neg c3] at H
  have c3b0 : (a0_0 == a1_0) = false := beq_eq_false_iff_ne.mpr c3
  have c3b1 : (a0_0 != a1_0) = true := bne_iff_ne.mpr c3
  obtain rfl := Option.some.inj H
  rotate_left
  all_goals (
   go_enter Try.func56, Try.ntmps56
   go_wp2_with (first | ((with_reducible refine gate_dst (N := 2) rfl ?_); refine box_event ?hg (N := 2) ?hd (cs := #[.int .i64 a0_0, .int .i64 a0_1]) (t := 69) ?hr ?_; (case hd => rfl); (case hg => rfl); (case hr => exact z_0); intro gb156 hg w10 hbox hb; have n0_ := Aside0.mk (below_step (z_1) hb); have n1_ := Aside0.mk (hbox); have n2_ := Aside0.mk ((z_2 : w.heap.size ≤ gb156)); have n3_ := Aside0.mk ((z_2 : w.heap.size ≤ gb156)); clear HB; have HB := n0_; have BK156 := n1_; have GW156 := n2_; have GE156 := n3_; clear n0_ n1_ n2_ n3_; clear hb hbox hg) | ((with_reducible refine gate_dst (N := 3) rfl ?_); refine box_event ?hg (N := 3) ?hd (cs := #[.int .i64 a1_0, .int .i64 a1_1]) (t := 69) ?hr ?_; (case hd => rfl); (case hg => rfl); (case hr => exact z_0); intro gb157 hg w11 hbox hb; have n0_ := Aside0.mk (blk_below (g := gb156) (o := .cells #[.int .i64 a0_0, .int .i64 a0_1] 69 (0, 0)) (z_49) hb); have n1_ := Aside0.mk (below_step (z_50) hb); have n2_ := Aside0.mk (hbox); have n3_ := Aside0.mk ((z_51 : w.heap.size ≤ gb157)); have n4_ := Aside0.mk ((z_51 : w.heap.size ≤ gb157)); have n5_ := Aside0.mk ((by rw [hg]; exact Nat.ne_of_lt (blk_lt (g := gb156) (o := .cells #[.int .i64 a0_0, .int .i64 a0_1] 69 (0, 0)) (z_49)) : gb156 ≠ gb157)); have n6_ := Aside0.mk ((by rw [hg]; exact Nat.ne_of_gt (blk_lt (g := gb156) (o := .cells #[.int .i64 a0_0, .int .i64 a0_1] 69 (0, 0)) (z_49)) : gb157 ≠ gb156)); clear BK156; clear HB; have BK156 := n0_; have HB := n1_; have BK157 := n2_; have GW157 := n3_; have GE157 := n4_; have NB156_157 := n5_; have NB157_156 := n6_; clear n0_ n1_ n2_ n3_ n4_ n5_ n6_; clear hb hbox hg; have hnb12 := NB156_157.out; have hnc12 := NB157_156.out; obtain ⟨hcz13_0, hcz13_1, hfz13_0, hfz13_1⟩ := cells_2 BK156.out; obtain ⟨hcz14_0, hcz14_1, hfz14_0, hfz14_1⟩ := cells_2 BK157.out))
   go_ret
   exact ⟨z_4, by repeat (first | (with_reducible first | exact HB.out | apply below_alloc | apply pw_below_drewN | apply below_drew1 | refine below_set ?_ GE156.out | refine below_set ?_ GE157.out) | exact HB.out)⟩)

/-! ### laws_eqRangeS: function 44 -/
def laws_eqRangeS.l0 : Nat → List (S69) → List (S69) → Int → Option (Bool)
  | 0, _, _, _ => none
  | k + 1, x0, x1, x5 => if x5 < (x0.length : Int) then (if 0 ≤ x5 then (if x5 < (x1.length : Int) then ((laws_eqRange.f ((rd_T69 x0 x5).f0) ((rd_T69 x0 x5).f1) ((rd_T69 x1 x5).f0) ((rd_T69 x1 x5).f1)).bind fun t160 => (if t160 = true then (laws_eqRangeS.l0 k x0 x1 (wrap64 (x5 + 1))) else (some false))) else (none)) else (none)) else (some true)
def laws_eqRangeS.f (k : Nat) (l0 : List (S69)) (l1 : List (S69)) : Option (Bool) := if (l0.length : Int) = (l1.length : Int) then (laws_eqRangeS.l0 k l0 l1 0) else (some false)
theorem laws_eqRangeS.mono_l : ∀ k, (∀ y0 y1 y2, LeO (laws_eqRangeS.l0 k y0 y1 y2) (laws_eqRangeS.l0 (k + 1) y0 y1 y2))
  | 0 => fun _ _ _ r h => by simp [laws_eqRangeS.l0] at h
  | k + 1 => by
    have ih0 := laws_eqRangeS.mono_l k
    · intro y0 y1 y2
      unfold laws_eqRangeS.l0
      repeat' first
      | (with_reducible exact ih0 _ _ _)
      | (with_reducible exact LeO.refl _)
      | (with_reducible exact LeO.none _)
      | (with_reducible refine LeO.ite ?_ ?_)
      | (with_reducible refine LeO.bind ?_ (fun _ => ?_))
      | exact ih0 _ _ _
      | exact LeO.none _
      | refine LeO.ite ?_ ?_
      | refine LeO.bind ?_ (fun _ => ?_)
theorem laws_eqRangeS.mono : ∀ a0 a1 k, LeO (laws_eqRangeS.f k a0 a1) (laws_eqRangeS.f (k + 1) a0 a1) := by
  intro a0 a1 k
  have ih0 := laws_eqRangeS.mono_l k
  unfold laws_eqRangeS.f
  repeat' first
      | (with_reducible exact ih0 _ _ _)
      | (with_reducible exact LeO.refl _)
      | (with_reducible exact LeO.none _)
      | (with_reducible refine LeO.ite ?_ ?_)
      | (with_reducible refine LeO.bind ?_ (fun _ => ?_))
      | exact ih0 _ _ _
      | exact LeO.none _
      | refine LeO.ite ?_ ?_
      | refine LeO.bind ?_ (fun _ => ?_)
def laws_eqRangeS.T6 : Bool × List (List Nat × List Nat) := (true, [([], []), ([], []), ([0, 1], [0, 1]), ([2], [2]), ([], []), ([], []), ([4, 5], [4, 5]), ([6], [6]), ([3, 7], [3, 7]), ([8], [8])])
def laws_eqRangeS.B6 : List Nat := [0, 0, 3, 7, 0, 0, 48, 112, 255, 511]
theorem laws_eqRangeS.tab6 : rtab .any (opsOf Try.f44 6) = laws_eqRangeS.T6 := z_3
theorem laws_eqRangeS.bits6 : waitsOk laws_eqRangeS.T6.2 laws_eqRangeS.B6 = true := z_3
set_option maxHeartbeats 8000000 in
set_option maxRecDepth 100000 in
theorem laws_eqRangeS.calls (k : Nat) (A0 : Option Addr) (c0 : Nat) (l0 : List (S69)) (A1 : Option Addr) (c1 : Nat) (l1 : List (S69)) (r : Bool) (w : World) (hr0 : Kd.C k69 w A0 l0.length l0) (hc0 : l0.length ≤ c0) (hr1 : Kd.C k69 w A1 l1.length l1) (hc1 : l1.length ≤ c1) (h : laws_eqRangeS.f k l0 l1 = some r) :
    Calls Try.prog 44 #[.slice A0 l0.length c0, .slice A1 l1.length c1] w fun e w' => e = .returned (.bool r) ∧ Below w.heap.size w w' := by
  have hu69 := Try.underlying69
  have HR0 := Aside0.mk hr0
  have HC0 := Aside0.mk hc0
  clear hr0 hc0
  have HR1 := Aside0.mk hr1
  have HC1 := Aside0.mk hc1
  clear hr1 hc1
  have HB := Aside0.mk (Below.refl w.heap.size w)
  have H : (if (l0.length : Int) = (l1.length : Int) then (laws_eqRangeS.l0 k l0 l1 0) else (some false)) = some r := h
  clear h
  by_cases c3 : (l0.length : Int) = (l1.length : Int)
  · rw [if_pos c3] at H
    have c3b0 : ((l0.length : Int) == (l1.length : Int)) = true := beq_iff_eq.mpr c3
    have c3b1 : ((l0.length : Int) != (l1.length : Int)) = false := bne_eq_false_iff_eq.mpr c3
    have c3b2 : (l0.length == l1.length) = true := z_47
    clear c3
    have H' := Aside0.mk H
    clear H
    go_enter Try.func44, Try.ntmps44
    go_wp2
    go_loopg [5] k (fun kq v5 w' => ∃ (x5_1 : Int), v5 = .int .i64 x5_1 ∧ Aside0 (laws_eqRangeS.l0 kq l0 l1 x5_1 = some r) ∧ Aside0 (kq ≤ k) ∧ Aside0 (Below w.heap.size w w'))
    case atStart => exact ⟨(0), (z_5), H', ⟨Nat.le_refl _⟩, ⟨z_1⟩⟩
    case round =>
      clear H'
      try clear c3
      try clear c3b0
      try clear c3b1
      try clear c3b2
      obtain ⟨x5_1, rfl, HA, HK1, HB⟩ := hrel
      cases gk with
      | zero => exact absurd HA.out (by simp [laws_eqRangeS.l0])
      | succ k1 =>
        have H := HA.out
        clear HA
        simp only [laws_eqRangeS.l0] at H
        by_cases c4 : x5_1 < (l0.length : Int)
        · rw [if_pos c4] at H
          have c4b0 : decide (x5_1 < (l0.length : Int)) = true := decide_eq_true c4
          clear c4
          by_cases c5 : 0 ≤ x5_1
          · rw [if_pos c5] at H
            have c5b0 : decide (0 ≤ x5_1) = true := decide_eq_true c5
            clear c5
            by_cases c6 : x5_1 < (l1.length : Int)
            · rw [if_pos c6] at H
              have c6b0 : decide (x5_1 < (l1.length : Int)) = true := decide_eq_true c6
              clear c6
              replace H := Option.bind_eq_some_iff.mp H
              obtain ⟨t160, A70, H⟩ := H
              have A7 := Aside0.mk A70
              clear A70
              by_cases c8 : t160 = true
              · subst c8
                rw [if_pos rfl] at H
                have H' := Aside0.mk H
                clear H
                try go_wp2
                have n0_ := Aside0.mk (below_drew1 HB.out)
                clear HB
                have HB := n0_
                clear n0_
                have p158 : 0 ≤ (x5_1 : Int) := of_decide_eq_true (z_10)
                have q158 : x5_1 < (l0.length : Int) := of_decide_eq_true (z_10)
                obtain ⟨ad158, e158, hx158_0, hx158_1⟩ := at_T69 HR0.out x5_1 p158 q158
                have hw158_1 := hx158_1
                have hw158_0 := hx158_0
                cases e158
                replace hx158_0 := pw_cell_below HB.out hx158_0
                replace hx158_1 := pw_cell_below HB.out hx158_1
                replace p158 := eq_true p158
                replace q158 := eq_true q158
                have p159 : 0 ≤ (x5_1 : Int) := of_decide_eq_true (z_10)
                have q159 : x5_1 < (l1.length : Int) := of_decide_eq_true (z_10)
                obtain ⟨ad159, e159, hx159_0, hx159_1⟩ := at_T69 HR1.out x5_1 p159 q159
                have hw159_1 := hx159_1
                have hw159_0 := hx159_0
                cases e159
                replace hx159_0 := pw_cell_below HB.out hx159_0
                replace hx159_1 := pw_cell_below HB.out hx159_1
                replace p159 := eq_true p159
                replace q159 := eq_true q159
                refine start_ (n := 10) (S := fun w' => w'.cell? (ad158.add ((x5_1).toNat * 2)) = some (.int .i64 ((rd_T69 l0 x5_1).f0)) ∧ w'.cell? ⟨(ad158.add ((x5_1).toNat * 2)).block, (ad158.add ((x5_1).toNat * 2)).off + 1, none⟩ = some (.int .i64 ((rd_T69 l0 x5_1).f1)) ∧ w'.cell? (ad159.add ((x5_1).toNat * 2)) = some (.int .i64 ((rd_T69 l1 x5_1).f0)) ∧ w'.cell? ⟨(ad159.add ((x5_1).toNat * 2)).block, (ad159.add ((x5_1).toNat * 2)).off + 1, none⟩ = some (.int .i64 ((rd_T69 l1 x5_1).f1))) (ds := []) #[F,F,F,F,F,F,F,F,F,F] (z_3) rfl rfl ⟨(pw_cell_below HB.out hw158_0), (pw_cell_below HB.out hw158_1), (pw_cell_below HB.out hw159_0), (pw_cell_below HB.out hw159_1)⟩ (fun hHeld => ?_); refine with_tabW laws_eqRangeS.tab6 laws_eqRangeS.bits6 (fun HT_ HW_ => ?_)
                generalize wr.drew = w9 at HB hx158_0 hx158_1 hx159_0 hx159_1 hHeld ⊢
                refine pure_ (i := 0) (N := some 17) (v := ?_) (a' := ?_) #[T,F,F,F,F,F,F,F,F,F] rfl rfl (any_of HT_.out (z_3)) (fun _ _ _ h => h) (Or.inl ⟨z_52, ?_⟩) ?_ ?_
                rotate_left
                · intro w'
                  go_simp
                  with_reducible rfl
                rotate_left
                · simp only [Act.put, List.setIfInBounds_toArray, List.set_cons_zero, List.set_cons_succ, i64_w, i32_w]
                  rfl
                refine pure_ (i := 1) (N := some 18) (v := ?_) (a' := ?_) #[T,T,F,F,F,F,F,F,F,F] rfl rfl (any_of HT_.out (z_3)) (fun _ _ _ h => h) (Or.inl ⟨z_52, ?_⟩) ?_ ?_
                rotate_left
                · intro w'
                  go_simp
                  with_reducible rfl
                rotate_left
                · simp only [Act.put, List.setIfInBounds_toArray, List.set_cons_zero, List.set_cons_succ, i64_w, i32_w]
                  rfl
                refine pure_ (i := 2) (N := some 19) (v := ?_) (a' := ?_) #[T,T,T,F,F,F,F,F,F,F] rfl rfl (any_of HT_.out (z_3)) (fun _ _ _ h => h) (Or.inl ⟨z_52, ?_⟩) ?_ ?_
                rotate_left
                · intro w'
                  go_simp
                  with_reducible rfl
                rotate_left
                · simp only [Act.put, List.setIfInBounds_toArray, List.set_cons_zero, List.set_cons_succ, i64_w, i32_w]
                  rfl
                refine pure_ (i := 4) (N := some 21) (v := ?_) (a' := ?_) #[T,T,T,F,T,F,F,F,F,F] rfl rfl (any_of HT_.out (z_3)) (fun _ _ _ h => h) (Or.inl ⟨z_52, ?_⟩) ?_ ?_
                rotate_left
                · intro w'
                  go_simp
                  with_reducible rfl
                rotate_left
                · simp only [Act.put, List.setIfInBounds_toArray, List.set_cons_zero, List.set_cons_succ, i64_w, i32_w]
                  rfl
                refine pure_ (i := 5) (N := some 22) (v := ?_) (a' := ?_) #[T,T,T,F,T,T,F,F,F,F] rfl rfl (any_of HT_.out (z_3)) (fun _ _ _ h => h) (Or.inl ⟨z_52, ?_⟩) ?_ ?_
                rotate_left
                · intro w'
                  go_simp
                  with_reducible rfl
                rotate_left
                · simp only [Act.put, List.setIfInBounds_toArray, List.set_cons_zero, List.set_cons_succ, i64_w, i32_w]
                  rfl
                refine pure_ (i := 6) (N := some 23) (v := ?_) (a' := ?_) #[T,T,T,F,T,T,T,F,F,F] rfl rfl (any_of HT_.out (z_3)) (fun _ _ _ h => h) (Or.inl ⟨z_52, ?_⟩) ?_ ?_
                rotate_left
                · intro w'
                  go_simp
                  with_reducible rfl
                rotate_left
                · simp only [Act.put, List.setIfInBounds_toArray, List.set_cons_zero, List.set_cons_succ, i64_w, i32_w]
                  rfl
                refine take_ (i := 3) (N := some 20) (v := ?_) (a' := ?_) #[T,T,T,T,T,T,T,F,F,F] rfl rfl (take_ofW HT_.out HW_.out (z_3)) (fun _ _ _ h => h) (Or.inl ⟨z_52, ?_⟩) hHeld ?_ ?_
                rotate_left
                · rintro w' ⟨s0, s1, s2, s3⟩
                  go_simp
                  with_reducible rfl
                rotate_left
                · simp only [Act.put, List.setIfInBounds_toArray, List.set_cons_zero, List.set_cons_succ, i64_w, i32_w]
                  rfl
                refine take_ (i := 7) (N := some 24) (v := ?_) (a' := ?_) #[T,T,T,T,T,T,T,T,F,F] rfl rfl (take_ofW HT_.out HW_.out (z_3)) (fun _ _ _ h => h) (Or.inl ⟨z_52, ?_⟩) hHeld ?_ ?_
                rotate_left
                · rintro w' ⟨s0, s1, s2, s3⟩
                  go_simp
                  with_reducible rfl
                rotate_left
                · simp only [Act.put, List.setIfInBounds_toArray, List.set_cons_zero, List.set_cons_succ, i64_w, i32_w]
                  rfl
                refine one_ (i := 8) (N := some 25) #[T,T,T,T,T,T,T,T,T,F] rfl rfl (one_of HT_.out (z_3)) (z_53) (fun K hK => ?_)
                refine goes_ Try.func56 (z_3) rfl #[.agg #[.int .i64 ((rd_T69 l0 x5_1).f0), .int .i64 ((rd_T69 l0 x5_1).f1)], .agg #[.int .i64 ((rd_T69 l1 x5_1).f0), .int .i64 ((rd_T69 l1 x5_1).f1)]] (z_52) rfl rfl (z_20) ?_
                with_reducible refine (laws_eqRange.calls ((rd_T69 l0 x5_1).f0) ((rd_T69 l0 x5_1).f1) ((rd_T69 l1 x5_1).f0) ((rd_T69 l1 x5_1).f1) true _ A7.out).mono ?_
                rintro e w10 ⟨rfl, hb⟩
                refine ⟨_, rfl, ?_⟩
                have n0_ := Aside0.mk (below_step (z_1) hb)
                clear HB
                have HB := n0_
                clear n0_
                (try clear hb)
                (try clear hb2)
                (try clear hk)
                (try clear hi)
                refine hK.out _ _ ⟨(pw_cell_below HB.out hw158_0), (pw_cell_below HB.out hw158_1), (pw_cell_below HB.out hw159_0), (pw_cell_below HB.out hw159_1)⟩ (fun hHeld => ?_)
                clear hK K
                refine norm_ (a' := ?_) ?_ ?_
                rotate_left
                · show Act.put _ (some 25) _ = _
                  simp only [Act.put, List.setIfInBounds_toArray, List.set_cons_zero, List.set_cons_succ, i64_w, i32_w]
                  rfl
                refine pure_ (i := 9) (N := some 26) (v := ?_) (a' := ?_) #[T,T,T,T,T,T,T,T,T,T] rfl rfl (any_of HT_.out (z_3)) (fun _ _ _ h => h) (Or.inl ⟨z_52, ?_⟩) ?_ ?_
                rotate_left
                · intro w'
                  go_simp
                  with_reducible rfl
                rotate_left
                · simp only [Act.put, List.setIfInBounds_toArray, List.set_cons_zero, List.set_cons_succ, i64_w, i32_w]
                  rfl
                refine done_ (done_of HT_.out (z_3)) ?_
                try go_wp2
                go_roundg k1
                case measure => have := HK1.out; omega
                case rel => exact ⟨(wrap64 (x5_1 + 1)), (z_5), H', ⟨z_48⟩, ⟨z_1⟩⟩
              · replace c8 := Bool.eq_false_iff.mpr c8
                subst c8
                rw [if_neg (show ¬ (false = true) by decide)] at H
                obtain rfl := Option.some.inj H
                try go_wp2
                have n0_ := Aside0.mk (below_drew1 HB.out)
                clear HB
                have HB := n0_
                clear n0_
                have p158 : 0 ≤ (x5_1 : Int) := of_decide_eq_true (z_10)
                have q158 : x5_1 < (l0.length : Int) := of_decide_eq_true (z_10)
                obtain ⟨ad158, e158, hx158_0, hx158_1⟩ := at_T69 HR0.out x5_1 p158 q158
                have hw158_1 := hx158_1
                have hw158_0 := hx158_0
                cases e158
                replace hx158_0 := pw_cell_below HB.out hx158_0
                replace hx158_1 := pw_cell_below HB.out hx158_1
                replace p158 := eq_true p158
                replace q158 := eq_true q158
                have p159 : 0 ≤ (x5_1 : Int) := of_decide_eq_true (z_10)
                have q159 : x5_1 < (l1.length : Int) := of_decide_eq_true (z_10)
                obtain ⟨ad159, e159, hx159_0, hx159_1⟩ := at_T69 HR1.out x5_1 p159 q159
                have hw159_1 := hx159_1
                have hw159_0 := hx159_0
                cases e159
                replace hx159_0 := pw_cell_below HB.out hx159_0
                replace hx159_1 := pw_cell_below HB.out hx159_1
                replace p159 := eq_true p159
                replace q159 := eq_true q159
                refine start_ (n := 10) (S := fun w' => w'.cell? (ad158.add ((x5_1).toNat * 2)) = some (.int .i64 ((rd_T69 l0 x5_1).f0)) ∧ w'.cell? ⟨(ad158.add ((x5_1).toNat * 2)).block, (ad158.add ((x5_1).toNat * 2)).off + 1, none⟩ = some (.int .i64 ((rd_T69 l0 x5_1).f1)) ∧ w'.cell? (ad159.add ((x5_1).toNat * 2)) = some (.int .i64 ((rd_T69 l1 x5_1).f0)) ∧ w'.cell? ⟨(ad159.add ((x5_1).toNat * 2)).block, (ad159.add ((x5_1).toNat * 2)).off + 1, none⟩ = some (.int .i64 ((rd_T69 l1 x5_1).f1))) (ds := []) #[F,F,F,F,F,F,F,F,F,F] (z_3) rfl rfl ⟨(pw_cell_below HB.out hw158_0), (pw_cell_below HB.out hw158_1), (pw_cell_below HB.out hw159_0), (pw_cell_below HB.out hw159_1)⟩ (fun hHeld => ?_); refine with_tabW laws_eqRangeS.tab6 laws_eqRangeS.bits6 (fun HT_ HW_ => ?_)
                generalize wr.drew = w11 at HB hx158_0 hx158_1 hx159_0 hx159_1 hHeld ⊢
                refine pure_ (i := 0) (N := some 17) (v := ?_) (a' := ?_) #[T,F,F,F,F,F,F,F,F,F] rfl rfl (any_of HT_.out (z_3)) (fun _ _ _ h => h) (Or.inl ⟨z_52, ?_⟩) ?_ ?_
                rotate_left
                · intro w'
                  go_simp
                  with_reducible rfl
                rotate_left
                · simp only [Act.put, List.setIfInBounds_toArray, List.set_cons_zero, List.set_cons_succ, i64_w, i32_w]
                  rfl
                refine pure_ (i := 1) (N := some 18) (v := ?_) (a' := ?_) #[T,T,F,F,F,F,F,F,F,F] rfl rfl (any_of HT_.out (z_3)) (fun _ _ _ h => h) (Or.inl ⟨z_52, ?_⟩) ?_ ?_
                rotate_left
                · intro w'
                  go_simp
                  with_reducible rfl
                rotate_left
                · simp only [Act.put, List.setIfInBounds_toArray, List.set_cons_zero, List.set_cons_succ, i64_w, i32_w]
                  rfl
                refine pure_ (i := 2) (N := some 19) (v := ?_) (a' := ?_) #[T,T,T,F,F,F,F,F,F,F] rfl rfl (any_of HT_.out (z_3)) (fun _ _ _ h => h) (Or.inl ⟨z_52, ?_⟩) ?_ ?_
                rotate_left
                · intro w'
                  go_simp
                  with_reducible rfl
                rotate_left
                · simp only [Act.put, List.setIfInBounds_toArray, List.set_cons_zero, List.set_cons_succ, i64_w, i32_w]
                  rfl
                refine pure_ (i := 4) (N := some 21) (v := ?_) (a' := ?_) #[T,T,T,F,T,F,F,F,F,F] rfl rfl (any_of HT_.out (z_3)) (fun _ _ _ h => h) (Or.inl ⟨z_52, ?_⟩) ?_ ?_
                rotate_left
                · intro w'
                  go_simp
                  with_reducible rfl
                rotate_left
                · simp only [Act.put, List.setIfInBounds_toArray, List.set_cons_zero, List.set_cons_succ, i64_w, i32_w]
                  rfl
                refine pure_ (i := 5) (N := some 22) (v := ?_) (a' := ?_) #[T,T,T,F,T,T,F,F,F,F] rfl rfl (any_of HT_.out (z_3)) (fun _ _ _ h => h) (Or.inl ⟨z_52, ?_⟩) ?_ ?_
                rotate_left
                · intro w'
                  go_simp
                  with_reducible rfl
                rotate_left
                · simp only [Act.put, List.setIfInBounds_toArray, List.set_cons_zero, List.set_cons_succ, i64_w, i32_w]
                  rfl
                refine pure_ (i := 6) (N := some 23) (v := ?_) (a' := ?_) #[T,T,T,F,T,T,T,F,F,F] rfl rfl (any_of HT_.out (z_3)) (fun _ _ _ h => h) (Or.inl ⟨z_52, ?_⟩) ?_ ?_
                rotate_left
                · intro w'
                  go_simp
                  with_reducible rfl
                rotate_left
                · simp only [Act.put, List.setIfInBounds_toArray, List.set_cons_zero, List.set_cons_succ, i64_w, i32_w]
                  rfl
                refine take_ (i := 3) (N := some 20) (v := ?_) (a' := ?_) #[T,T,T,T,T,T,T,F,F,F] rfl rfl (take_ofW HT_.out HW_.out (z_3)) (fun _ _ _ h => h) (Or.inl ⟨z_52, ?_⟩) hHeld ?_ ?_
                rotate_left
                · rintro w' ⟨s0, s1, s2, s3⟩
                  go_simp
                  with_reducible rfl
                rotate_left
                · simp only [Act.put, List.setIfInBounds_toArray, List.set_cons_zero, List.set_cons_succ, i64_w, i32_w]
                  rfl
                refine take_ (i := 7) (N := some 24) (v := ?_) (a' := ?_) #[T,T,T,T,T,T,T,T,F,F] rfl rfl (take_ofW HT_.out HW_.out (z_3)) (fun _ _ _ h => h) (Or.inl ⟨z_52, ?_⟩) hHeld ?_ ?_
                rotate_left
                · rintro w' ⟨s0, s1, s2, s3⟩
                  go_simp
                  with_reducible rfl
                rotate_left
                · simp only [Act.put, List.setIfInBounds_toArray, List.set_cons_zero, List.set_cons_succ, i64_w, i32_w]
                  rfl
                refine one_ (i := 8) (N := some 25) #[T,T,T,T,T,T,T,T,T,F] rfl rfl (one_of HT_.out (z_3)) (z_53) (fun K hK => ?_)
                refine goes_ Try.func56 (z_3) rfl #[.agg #[.int .i64 ((rd_T69 l0 x5_1).f0), .int .i64 ((rd_T69 l0 x5_1).f1)], .agg #[.int .i64 ((rd_T69 l1 x5_1).f0), .int .i64 ((rd_T69 l1 x5_1).f1)]] (z_52) rfl rfl (z_20) ?_
                with_reducible refine (laws_eqRange.calls ((rd_T69 l0 x5_1).f0) ((rd_T69 l0 x5_1).f1) ((rd_T69 l1 x5_1).f0) ((rd_T69 l1 x5_1).f1) false _ A7.out).mono ?_
                rintro e w12 ⟨rfl, hb⟩
                refine ⟨_, rfl, ?_⟩
                have n0_ := Aside0.mk (below_step (z_1) hb)
                clear HB
                have HB := n0_
                clear n0_
                (try clear hb)
                (try clear hb2)
                (try clear hk)
                (try clear hi)
                refine hK.out _ _ ⟨(pw_cell_below HB.out hw158_0), (pw_cell_below HB.out hw158_1), (pw_cell_below HB.out hw159_0), (pw_cell_below HB.out hw159_1)⟩ (fun hHeld => ?_)
                clear hK K
                refine norm_ (a' := ?_) ?_ ?_
                rotate_left
                · show Act.put _ (some 25) _ = _
                  simp only [Act.put, List.setIfInBounds_toArray, List.set_cons_zero, List.set_cons_succ, i64_w, i32_w]
                  rfl
                refine pure_ (i := 9) (N := some 26) (v := ?_) (a' := ?_) #[T,T,T,T,T,T,T,T,T,T] rfl rfl (any_of HT_.out (z_3)) (fun _ _ _ h => h) (Or.inl ⟨z_52, ?_⟩) ?_ ?_
                rotate_left
                · intro w'
                  go_simp
                  with_reducible rfl
                rotate_left
                · simp only [Act.put, List.setIfInBounds_toArray, List.set_cons_zero, List.set_cons_succ, i64_w, i32_w]
                  rfl
                refine done_ (done_of HT_.out (z_3)) ?_
                try go_wp2
                go_ret
                exact ⟨z_4, z_1⟩
            · rw [if_neg c6] at H
              exact absurd H (by simp)
          · rw [if_neg c5] at H
            exact absurd H (by simp)
        · rw [if_neg c4] at H
          have c4b0 : decide (x5_1 < (l0.length : Int)) = false := decide_eq_false c4
          clear c4
          obtain rfl := Option.some.inj H
          go_wp2
          go_ret
          exact ⟨z_4, z_1⟩
  · rw [if_neg c3] at H
    have c3b0 : ((l0.length : Int) == (l1.length : Int)) = false := beq_eq_false_iff_ne.mpr c3
    have c3b1 : ((l0.length : Int) != (l1.length : Int)) = true := bne_iff_ne.mpr c3
    have c3b2 : (l0.length == l1.length) = false := z_47
    obtain rfl := Option.some.inj H
    go_enter Try.func44, Try.ntmps44
    go_wp2
    go_ret
    exact ⟨z_4, z_1⟩

end Go.Proofs.Ytpadgacbkkjjfaa.GFnExactEndNew
