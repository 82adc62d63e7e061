/- What the Go functions that FnExactKeptFind reaches come to, walked step by step; there is no condition beyond those each statement names. -/
import Derived.Test.YtmgnmgobibpjjaaGFnExactKeptFindx0
import Derived.Test.YtmgnmgobibpjjaaGFnExactKeptFindx1
namespace Go.Proofs.Ytmgnmgobibpjjaa.GFnExactKeptFind
open Go.RowKit Go.Proofs.YtmgnmgobibpjjaaVExactKeptFind.PrintWords Go.Proofs.YtmgnmgobibpjjaaVExactKeptFind.PrintLast Go.Proofs.YtmgnmgobibpjjaaVExactKeptFind.PrintMore
open Bool renaming true → T, false → F
attribute [local go_sem] max2_int min2_int max_two min_two max_three min_three max_four min_four   -- for this text's walks alone
set_option linter.unusedVariables false
set_option linter.unusedSimpArgs false

/-! ### laws_szKeptS: function 33 -/
def laws_szKeptS.l0 : Nat → List (S81) → Int → Int → Option (Int)
 | 0, _, _, _ => none
 | k + 1, x0, x1, x5 => if x5 < (x0.length : Int) then (if 0 ≤ x5 then ((laws_szKept.f ((rd_T81 x0 x5).f0.f0) ((rd_T81 x0 x5).f0.f1) ((rd_T81 x0 x5).f0.f2) ((rd_T81 x0 x5).f0.f3) ((rd_T81 x0 x5).f0.f4) ((rd_T81 x0 x5).f1) x1).bind fun t125 => (if t125 < 0 then (some (-1)) else (laws_szKeptS.l0 k x0 t125 (wrap64 (x5 + 1))))) else (none)) else (some x1)
def laws_szKeptS.f (k : Nat) (l0 : List (S81)) (a1 : Int) : Option (Int) := if (wrap64 (a1 - (l0.length : Int))) < 0 then (some (-1)) else (laws_szKeptS.l0 k l0 (wrap64 (a1 - (l0.length : Int))) 0)
theorem laws_szKeptS.mono_l : ∀ k, (∀ y0 y1 y2, LeO (laws_szKeptS.l0 k y0 y1 y2) (laws_szKeptS.l0 (k + 1) y0 y1 y2))
 | 0 => fun _ _ _ r h => by simp [laws_szKeptS.l0] at h
 | k + 1 => by
  have ih0 := laws_szKeptS.mono_l k
  ·intro y0 y1 y2
   unfold laws_szKeptS.l0
   repeat' first
   | (with_reducible exact ih0 _ _ _)
   | (with_reducible exact LeO.refl _)
   | (with_reducible exact LeO.none _)
   | (with_reducible refine LeO.ite ?_ ?_)
   | (with_reducible refine LeO.bind ?_ (fun _ => ?_))
   | exact ih0 _ _ _
   | exact LeO.none _
   | refine LeO.ite ?_ ?_
   | refine LeO.bind ?_ (fun _ => ?_)
theorem laws_szKeptS.mono : ∀ a0 a1 k, LeO (laws_szKeptS.f k a0 a1) (laws_szKeptS.f (k + 1) a0 a1) := by
 intro a0 a1 k
 have ih0 := laws_szKeptS.mono_l k
 unfold laws_szKeptS.f
 repeat' first
   | (with_reducible exact ih0 _ _ _)
   | (with_reducible exact LeO.refl _)
   | (with_reducible exact LeO.none _)
   | (with_reducible refine LeO.ite ?_ ?_)
   | (with_reducible refine LeO.bind ?_ (fun _ => ?_))
   | exact ih0 _ _ _
   | exact LeO.none _
   | refine LeO.ite ?_ ?_
   | refine LeO.bind ?_ (fun _ => ?_)
set_option maxHeartbeats 8000000 in
set_option maxRecDepth 100000 in
theorem laws_szKeptS.calls (k : Nat) (A0 : Option Addr) (c0 : Nat) (l0 : List (S81)) (a1 : Int) (r : Int) (w : World) (hr0 : Kd.C k81 w A0 l0.length l0) (hc0 : l0.length ≤ c0) (h : laws_szKeptS.f k l0 a1 = some r) :
  Calls Try.prog 33 #[.slice A0 l0.length c0, .int .i64 a1] w fun e w' => e = .returned (.int .i64 r) ∧ Below w.heap.size w w' := by
 have hu81 := Try.underlying81
 have HR0 := Aside0.mk hr0
 have HC0 := Aside0.mk hc0
 clear hr0 hc0
 have HB := Aside0.mk (Below.refl w.heap.size w)
 have H : (if (wrap64 (a1 - (l0.length : Int))) < 0 then (some (-1)) else (laws_szKeptS.l0 k l0 (wrap64 (a1 - (l0.length : Int))) 0)) = some r := h
 clear h
 by_cases c3 : (wrap64 (a1 - (l0.length : Int))) < 0
 ·rw [if_pos c3] at H
  have c3b0 : decide ((wrap64 (a1 - (l0.length : Int))) < 0) = true := decide_eq_true c3
  clear c3
  obtain rfl := Option.some.inj H
  go_enter Try.func33, Try.ntmps33
  go_wp2
  go_ret
  exact ⟨z_4, z_2⟩
 ·rw [if_neg c3] at H
  have c3b0 : decide ((wrap64 (a1 - (l0.length : Int))) < 0) = false := decide_eq_false c3
  clear c3
  have H' := Aside0.mk H
  clear H
  go_enter Try.func33, Try.ntmps33
  go_wp2
  go_loopg [1, 5] k (fun kq v1 v5 w' => ∃ (x1_1 : Int) (x5_1 : Int), v1 = .int .i64 x1_1 ∧ v5 = .int .i64 x5_1 ∧ Aside0 (laws_szKeptS.l0 kq l0 x1_1 x5_1 = some r) ∧ Aside0 (kq ≤ k) ∧ Aside0 (Below w.heap.size w w'))
  case atStart => exact ⟨(wrap64 (a1 - (l0.length : Int))), (0), (z_6), (z_6), H', ⟨Nat.le_refl _⟩, ⟨z_2⟩⟩
  case round =>
   clear H'
   try clear p2
   try clear c3
   try clear c3b0
   obtain ⟨x1_1, x5_1, rfl, rfl, HA, HK1, HB⟩ := hrel
   cases gk with
   | zero => exact absurd HA.out (by simp [laws_szKeptS.l0])
   | succ k1 =>
    have H := HA.out
    clear HA
    simp only [laws_szKeptS.l0] at H
    by_cases c4 : x5_1 < (l0.length : Int)
    ·rw [if_pos c4] at H
     have c4b0 : decide (x5_1 < (l0.length : Int)) = true := decide_eq_true c4
     clear c4
     by_cases c5 : 0 ≤ x5_1
     ·rw [if_pos c5] at H
      have c5b0 : decide (0 ≤ x5_1) = true := decide_eq_true c5
      clear c5
      replace H := Option.bind_eq_some_iff.mp H
      obtain ⟨t125, A60, H⟩ := H
      have A6 := Aside0.mk A60
      clear A60
      by_cases c7 : t125 < 0
      ·rw [if_pos c7] at H
       have c7b0 : decide (t125 < 0) = true := decide_eq_true c7
       clear c7
       obtain rfl := Option.some.inj H
       have p124 : 0 ≤ (x5_1 : Int) := of_decide_eq_true (z_7)
       have q124 : x5_1 < (l0.length : Int) := of_decide_eq_true (z_7)
       obtain ⟨ad124, e124, hx124_0, hx124_1, hx124_2, hx124_3, hx124_4, hx124_5⟩ := at_T81 HR0.out x5_1 p124 q124
       cases e124
       replace hx124_0 := pw_cell_below HB.out hx124_0
       replace hx124_1 := pw_cell_below HB.out hx124_1
       replace hx124_2 := pw_cell_below HB.out hx124_2
       replace hx124_3 := pw_cell_below HB.out hx124_3
       replace hx124_4 := pw_cell_below HB.out hx124_4
       replace hx124_5 := pw_cell_below HB.out hx124_5
       replace p124 := eq_true p124
       replace q124 := eq_true q124
       go_wp2_with (first | ((with_reducible refine gate_callee (f := 64) rfl ?_); refine goesL_ (some 23) rfl rfl Try.func64 (z_0) rfl #[.agg #[.string ((rd_T81 l0 x5_1).f0.f0), .int .i64 ((rd_T81 l0 x5_1).f0.f1), .int .i64 ((rd_T81 l0 x5_1).f0.f2), .string ((rd_T81 l0 x5_1).f0.f3), .int .i64 ((rd_T81 l0 x5_1).f0.f4), .int .i64 ((rd_T81 l0 x5_1).f1)], .int .i64 x1_1] rfl (z_8) ?_; (with_reducible refine (laws_szKept.calls ((rd_T81 l0 x5_1).f0.f0) ((rd_T81 l0 x5_1).f0.f1) ((rd_T81 l0 x5_1).f0.f2) ((rd_T81 l0 x5_1).f0.f3) ((rd_T81 l0 x5_1).f0.f4) ((rd_T81 l0 x5_1).f1) x1_1 t125 _ A6.out).mono ?_); rintro e w8 ⟨rfl, hb⟩; refine ⟨_, rfl, ?_⟩; have n0_ := Aside0.mk (below_step (z_2) hb); clear HB; have HB := n0_; clear n0_; (try clear hb); (try clear hb2); (try clear hk); (try clear hi)))
       go_ret
       exact ⟨z_4, z_2⟩
      ·rw [if_neg c7] at H
       have c7b0 : decide (t125 < 0) = false := decide_eq_false c7
       clear c7
       have H' := Aside0.mk H
       clear H
       have p124 : 0 ≤ (x5_1 : Int) := of_decide_eq_true (z_7)
       have q124 : x5_1 < (l0.length : Int) := of_decide_eq_true (z_7)
       obtain ⟨ad124, e124, hx124_0, hx124_1, hx124_2, hx124_3, hx124_4, hx124_5⟩ := at_T81 HR0.out x5_1 p124 q124
       cases e124
       replace hx124_0 := pw_cell_below HB.out hx124_0
       replace hx124_1 := pw_cell_below HB.out hx124_1
       replace hx124_2 := pw_cell_below HB.out hx124_2
       replace hx124_3 := pw_cell_below HB.out hx124_3
       replace hx124_4 := pw_cell_below HB.out hx124_4
       replace hx124_5 := pw_cell_below HB.out hx124_5
       replace p124 := eq_true p124
       replace q124 := eq_true q124
       go_wp2_with (first | ((with_reducible refine gate_callee (f := 64) rfl ?_); refine goesL_ (some 23) rfl rfl Try.func64 (z_0) rfl #[.agg #[.string ((rd_T81 l0 x5_1).f0.f0), .int .i64 ((rd_T81 l0 x5_1).f0.f1), .int .i64 ((rd_T81 l0 x5_1).f0.f2), .string ((rd_T81 l0 x5_1).f0.f3), .int .i64 ((rd_T81 l0 x5_1).f0.f4), .int .i64 ((rd_T81 l0 x5_1).f1)], .int .i64 x1_1] rfl (z_8) ?_; (with_reducible refine (laws_szKept.calls ((rd_T81 l0 x5_1).f0.f0) ((rd_T81 l0 x5_1).f0.f1) ((rd_T81 l0 x5_1).f0.f2) ((rd_T81 l0 x5_1).f0.f3) ((rd_T81 l0 x5_1).f0.f4) ((rd_T81 l0 x5_1).f1) x1_1 t125 _ A6.out).mono ?_); rintro e w9 ⟨rfl, hb⟩; refine ⟨_, rfl, ?_⟩; have n0_ := Aside0.mk (below_step (z_2) hb); clear HB; have HB := n0_; clear n0_; (try clear hb); (try clear hb2); (try clear hk); (try clear hi)))
       go_roundg k1
       case measure => have := HK1.out; omega
       case rel => exact ⟨(t125), (wrap64 (x5_1 + 1)), (z_6), (z_6), H', ⟨z_9⟩, ⟨z_2⟩⟩
     ·rw [if_neg c5] at H
      exact absurd H (z_10)
    ·rw [if_neg c4] at H
     have c4b0 : decide (x5_1 < (l0.length : Int)) = false := decide_eq_false c4
     clear c4
     obtain rfl := Option.some.inj H
     go_wp2
     go_ret
     exact ⟨z_4, z_2⟩

/-! ### laws_toKept: function 65 -/
def laws_toKept.f (a0_0 : ByteArray) (a0_1 : Int) (a0_2 : Int) (a0_3 : ByteArray) (a0_4 : Int) (a0_5 : Int) : Option (ByteArray × Int × Int × ByteArray × Int × Int) := (laws_toName.f a0_0 a0_1 a0_2 a0_3 a0_4).bind fun bt129 => (some (bt129.1, bt129.2.1, bt129.2.2.1, bt129.2.2.2.1, bt129.2.2.2.2, a0_5))
set_option maxHeartbeats 8000000 in
set_option maxRecDepth 100000 in
theorem laws_toKept.calls (a0_0 : ByteArray) (a0_1 : Int) (a0_2 : Int) (a0_3 : ByteArray) (a0_4 : Int) (a0_5 : Int) (r1 : ByteArray) (r2 : Int) (r3 : Int) (r4 : ByteArray) (r5 : Int) (r6 : Int) (w : World) (h : laws_toKept.f a0_0 a0_1 a0_2 a0_3 a0_4 a0_5 = some (r1, r2, r3, r4, r5, r6)) :
  Calls Try.prog 65 #[.agg #[.string a0_0, .int .i64 a0_1, .int .i64 a0_2, .string a0_3, .int .i64 a0_4, .int .i64 a0_5]] w fun e w' => e = .returned (.agg #[.string r1, .int .i64 r2, .int .i64 r3, .string r4, .int .i64 r5, .int .i64 r6]) ∧ Below w.heap.size w w' := by
 have hu81 := Try.underlying81
 have hu83 := Try.underlying83
 have hu23 := Try.underlying23
 have hu26 := Try.underlying26
 have HB := Aside0.mk (Below.refl w.heap.size w)
 have H : ((laws_toName.f a0_0 a0_1 a0_2 a0_3 a0_4).bind fun bt129 => (some (bt129.1, bt129.2.1, bt129.2.2.1, bt129.2.2.2.1, bt129.2.2.2.2, a0_5))) = some (r1, r2, r3, r4, r5, r6) := h
 clear h
 replace H := Option.bind_eq_some_iff.mp H
 obtain ⟨⟨t129, t130, t131, t132, t133⟩, A20, H⟩ := H
 replace H : (some (t129, t130, t131, t132, t133, a0_5)) = some (r1, r2, r3, r4, r5, r6) := H
 have A2 := Aside0.mk A20
 clear A20
 simp only [Option.some.injEq, Prod.mk.injEq] at H
 obtain ⟨rfl, rfl, rfl, rfl, rfl, rfl⟩ := H
 go_enter Try.func65, Try.ntmps65
 go_wp2_with (first | ((with_reducible refine gate_dst (N := 1) rfl ?_); refine box_event ?hg (N := 1) ?hd (cs := #[.string a0_0, .int .i64 a0_1, .int .i64 a0_2, .string a0_3, .int .i64 a0_4, .int .i64 a0_5]) (t := 81) ?hr ?_; (case hd => rfl); (case hg => rfl); (case hr => exact z_1); intro gb126 hg w3 hbox hb; have n0_ := Aside0.mk (below_step (z_2) hb); have n1_ := Aside0.mk (hbox); have n2_ := Aside0.mk ((z_3 : w.heap.size ≤ gb126)); have n3_ := Aside0.mk ((z_3 : w.heap.size ≤ gb126)); clear HB; have HB := n0_; have BK126 := n1_; have GW126 := n2_; have GE126 := n3_; clear n0_ n1_ n2_ n3_; clear hb hbox hg) | ((with_reducible refine gate_dst (N := 2) rfl ?_); refine box_event ?hg (N := 2) ?hd (cs := #[.string (⟨#[]⟩ : ByteArray), .int .i64 0, .int .i64 0, .string (⟨#[]⟩ : ByteArray), .int .i64 0, .int .i64 0]) (t := 83) ?hr ?_; (case hd => rfl); (case hg => rfl); (case hr => exact z_1); intro gb127 hg w4 hbox hb; have n0_ := Aside0.mk (blk_below (g := gb126) (o := .cells #[.string a0_0, .int .i64 a0_1, .int .i64 a0_2, .string a0_3, .int .i64 a0_4, .int .i64 a0_5] 81 (0, 0)) (z_33) hb); have n1_ := Aside0.mk (below_step (z_34) hb); have n2_ := Aside0.mk (hbox); have n3_ := Aside0.mk ((z_35 : w.heap.size ≤ gb127)); have n4_ := Aside0.mk ((z_35 : w.heap.size ≤ gb127)); have n5_ := Aside0.mk ((z_36 : gb126 ≠ gb127)); have n6_ := Aside0.mk ((z_37 : gb127 ≠ gb126)); clear BK126; clear HB; have BK126 := n0_; have HB := n1_; have BK127 := n2_; have GW127 := n3_; have GE127 := n4_; have NB126_127 := n5_; have NB127_126 := n6_; clear n0_ n1_ n2_ n3_ n4_ n5_ n6_; clear hb hbox hg) | ((with_reducible refine gate_dst (N := 3) rfl ?_); refine box_event ?hg (N := 3) ?hd (cs := #[.string (⟨#[]⟩ : ByteArray), .int .i64 0, .int .i64 0, .string (⟨#[]⟩ : ByteArray), .int .i64 0, .int .i64 0]) (t := 83) ?hr ?_; (case hd => rfl); (case hg => rfl); (case hr => exact z_1); intro gb128 hg w5 hbox hb; have n0_ := Aside0.mk (blk_below (g := gb126) (o := .cells #[.string a0_0, .int .i64 a0_1, .int .i64 a0_2, .string a0_3, .int .i64 a0_4, .int .i64 a0_5] 81 (0, 0)) (z_33) hb); have n1_ := Aside0.mk (blk_below (g := gb127) (o := .cells #[.string (⟨#[]⟩ : ByteArray), .int .i64 0, .int .i64 0, .string (⟨#[]⟩ : ByteArray), .int .i64 0, .int .i64 0] 83 (0, 0)) (z_38) hb); have n2_ := Aside0.mk (below_step (z_39) hb); have n3_ := Aside0.mk (hbox); have n4_ := Aside0.mk ((z_40 : w.heap.size ≤ gb128)); have n5_ := Aside0.mk ((z_40 : w.heap.size ≤ gb128)); have n6_ := Aside0.mk ((z_36 : gb126 ≠ gb128)); have n7_ := Aside0.mk ((z_37 : gb128 ≠ gb126)); have n8_ := Aside0.mk ((by rw [hg]; exact Nat.ne_of_lt (blk_lt (g := gb127) (o := .cells #[.string (⟨#[]⟩ : ByteArray), .int .i64 0, .int .i64 0, .string (⟨#[]⟩ : ByteArray), .int .i64 0, .int .i64 0] 83 (0, 0)) (z_38)) : gb127 ≠ gb128)); have n9_ := Aside0.mk ((by rw [hg]; exact Nat.ne_of_gt (blk_lt (g := gb127) (o := .cells #[.string (⟨#[]⟩ : ByteArray), .int .i64 0, .int .i64 0, .string (⟨#[]⟩ : ByteArray), .int .i64 0, .int .i64 0] 83 (0, 0)) (z_38)) : gb128 ≠ gb127)); clear BK126; clear BK127; clear HB; have BK126 := n0_; have BK127 := n1_; have HB := n2_; have BK128 := n3_; have GW128 := n4_; have GE128 := n5_; have NB126_128 := n6_; have NB128_126 := n7_; have NB127_128 := n8_; have NB128_127 := n9_; clear n0_ n1_ n2_ n3_ n4_ n5_ n6_ n7_ n8_ n9_; clear hb hbox hg; have hnb6 := NB126_127.out; have hnc6 := NB127_126.out; have hnb7 := NB126_128.out; have hnc7 := NB128_126.out; have hcz8_0 : w5.cell? ⟨gb126, 0, none⟩ = some (.string a0_0) := (blk_cell BK126.out 0).trans rfl; have hcz8_1 : w5.cell? ⟨gb126, 1, none⟩ = some (.int .i64 a0_1) := (blk_cell BK126.out 1).trans rfl; have hcz8_2 : w5.cell? ⟨gb126, 2, none⟩ = some (.int .i64 a0_2) := (blk_cell BK126.out 2).trans rfl; have hcz8_3 : w5.cell? ⟨gb126, 3, none⟩ = some (.string a0_3) := (blk_cell BK126.out 3).trans rfl; have hcz8_4 : w5.cell? ⟨gb126, 4, none⟩ = some (.int .i64 a0_4) := (blk_cell BK126.out 4).trans rfl; have hcz8_5 : w5.cell? ⟨gb126, 5, none⟩ = some (.int .i64 a0_5) := (blk_cell BK126.out 5).trans rfl; have hfz8_0 := blk_frozen BK126.out 0; have hfz8_1 := blk_frozen BK126.out 1; have hfz8_2 := blk_frozen BK126.out 2; have hfz8_3 := blk_frozen BK126.out 3; have hfz8_4 := blk_frozen BK126.out 4; have hfz8_5 := blk_frozen BK126.out 5) | ((with_reducible refine gate_callee (f := 20) rfl ?_); refine goesL_ (some 6) rfl rfl Try.func20 (z_0) rfl #[.agg #[.string a0_0, .int .i64 a0_1, .int .i64 a0_2, .string a0_3, .int .i64 a0_4]] rfl (z_8) ?_; (with_reducible refine (laws_toName.calls a0_0 a0_1 a0_2 a0_3 a0_4 t129 t130 t131 t132 t133 _ A2.out).mono ?_); rintro e w9 ⟨rfl, hb⟩; refine ⟨_, rfl, ?_⟩; have n0_ := Aside0.mk (blk_below (g := gb126) (o := .cells #[.string a0_0, .int .i64 a0_1, .int .i64 a0_2, .string a0_3, .int .i64 a0_4, .int .i64 a0_5] 81 (0, 0)) (z_33) hb); have n1_ := Aside0.mk (blk_below (g := gb127) (o := .cells #[.string (⟨#[]⟩ : ByteArray), .int .i64 0, .int .i64 0, .string (⟨#[]⟩ : ByteArray), .int .i64 0, .int .i64 0] 83 (0, 0)) (z_38) hb); have n2_ := Aside0.mk (blk_below (g := gb128) (o := .cells #[.string (⟨#[]⟩ : ByteArray), .int .i64 0, .int .i64 0, .string (⟨#[]⟩ : ByteArray), .int .i64 0, .int .i64 0] 83 (0, 0)) (by (with_reducible repeat (first | refine blk_drewN ?_ _ | refine blk_drew ?_ | refine blk_alloc ?_ _)); exact BK128.out) hb); have n3_ := Aside0.mk (below_step (z_41) hb); clear BK126; clear BK127; clear BK128; clear HB; have BK126 := n0_; have BK127 := n1_; have BK128 := n2_; have HB := n3_; clear n0_ n1_ n2_ n3_; (try clear hb); (try clear hb2); (try clear hk); (try clear hi); have hnb10 := NB128_127.out; have hnc10 := NB127_128.out; have hcz11_0 : w9.cell? ⟨gb128, 0, none⟩ = some (.string (⟨#[]⟩ : ByteArray)) := (blk_cell BK128.out 0).trans rfl; have hcz11_1 : w9.cell? ⟨gb128, 1, none⟩ = some (.int .i64 0) := (blk_cell BK128.out 1).trans rfl; have hcz11_2 : w9.cell? ⟨gb128, 2, none⟩ = some (.int .i64 0) := (blk_cell BK128.out 2).trans rfl; have hcz11_3 : w9.cell? ⟨gb128, 3, none⟩ = some (.string (⟨#[]⟩ : ByteArray)) := (blk_cell BK128.out 3).trans rfl; have hcz11_4 : w9.cell? ⟨gb128, 4, none⟩ = some (.int .i64 0) := (blk_cell BK128.out 4).trans rfl; have hcz11_5 : w9.cell? ⟨gb128, 5, none⟩ = some (.int .i64 0) := (blk_cell BK128.out 5).trans rfl; have hfz11_0 := blk_frozen BK128.out 0; have hfz11_1 := blk_frozen BK128.out 1; have hfz11_2 := blk_frozen BK128.out 2; have hfz11_3 := blk_frozen BK128.out 3; have hfz11_4 := blk_frozen BK128.out 4; have hfz11_5 := blk_frozen BK128.out 5; have hcz12_0 : w9.cell? ⟨gb126, 0, none⟩ = some (.string a0_0) := (blk_cell BK126.out 0).trans rfl; have hcz12_1 : w9.cell? ⟨gb126, 1, none⟩ = some (.int .i64 a0_1) := (blk_cell BK126.out 1).trans rfl; have hcz12_2 : w9.cell? ⟨gb126, 2, none⟩ = some (.int .i64 a0_2) := (blk_cell BK126.out 2).trans rfl; have hcz12_3 : w9.cell? ⟨gb126, 3, none⟩ = some (.string a0_3) := (blk_cell BK126.out 3).trans rfl; have hcz12_4 : w9.cell? ⟨gb126, 4, none⟩ = some (.int .i64 a0_4) := (blk_cell BK126.out 4).trans rfl; have hcz12_5 : w9.cell? ⟨gb126, 5, none⟩ = some (.int .i64 a0_5) := (blk_cell BK126.out 5).trans rfl; have hfz12_0 := blk_frozen BK126.out 0; have hfz12_1 := blk_frozen BK126.out 1; have hfz12_2 := blk_frozen BK126.out 2; have hfz12_3 := blk_frozen BK126.out 3; have hfz12_4 := blk_frozen BK126.out 4; have hfz12_5 := blk_frozen BK126.out 5; have hcz13_0 : w9.cell? ⟨gb127, 0, none⟩ = some (.string (⟨#[]⟩ : ByteArray)) := (blk_cell BK127.out 0).trans rfl; have hcz13_1 : w9.cell? ⟨gb127, 1, none⟩ = some (.int .i64 0) := (blk_cell BK127.out 1).trans rfl; have hcz13_2 : w9.cell? ⟨gb127, 2, none⟩ = some (.int .i64 0) := (blk_cell BK127.out 2).trans rfl; have hcz13_3 : w9.cell? ⟨gb127, 3, none⟩ = some (.string (⟨#[]⟩ : ByteArray)) := (blk_cell BK127.out 3).trans rfl; have hcz13_4 : w9.cell? ⟨gb127, 4, none⟩ = some (.int .i64 0) := (blk_cell BK127.out 4).trans rfl; have hcz13_5 : w9.cell? ⟨gb127, 5, none⟩ = some (.int .i64 0) := (blk_cell BK127.out 5).trans rfl; have hfz13_0 := blk_frozen BK127.out 0; have hfz13_1 := blk_frozen BK127.out 1; have hfz13_2 := blk_frozen BK127.out 2; have hfz13_3 := blk_frozen BK127.out 3; have hfz13_4 := blk_frozen BK127.out 4; have hfz13_5 := blk_frozen BK127.out 5))
 refine bodyPost_ret (results_cell_row rfl _ _ gb127 83 #[.string t129, .int .i64 t130, .int .i64 t131, .string t132, .int .i64 t133, .int .i64 a0_5] (0, 0) _ rfl (by (with_reducible repeat (first | refine blk_drewN ?_ _ | refine blk_drew ?_ | refine blk_alloc ?_ _)); refine blk_put (cs := #[.string t129, .int .i64 t130, .int .i64 t131, .string t132, .int .i64 t133, .int .i64 0]) ?_ 5 _ rfl; (with_reducible repeat (first | refine blk_drewN ?_ _ | refine blk_drew ?_ | refine blk_alloc ?_ _)); refine blk_put (cs := #[.string t129, .int .i64 t130, .int .i64 t131, .string t132, .int .i64 0, .int .i64 0]) ?_ 4 _ rfl; (with_reducible repeat (first | refine blk_drewN ?_ _ | refine blk_drew ?_ | refine blk_alloc ?_ _)); refine blk_put (cs := #[.string t129, .int .i64 t130, .int .i64 t131, .string (⟨#[]⟩ : ByteArray), .int .i64 0, .int .i64 0]) ?_ 3 _ rfl; (with_reducible repeat (first | refine blk_drewN ?_ _ | refine blk_drew ?_ | refine blk_alloc ?_ _)); refine blk_put (cs := #[.string t129, .int .i64 t130, .int .i64 0, .string (⟨#[]⟩ : ByteArray), .int .i64 0, .int .i64 0]) ?_ 2 _ rfl; (with_reducible repeat (first | refine blk_drewN ?_ _ | refine blk_drew ?_ | refine blk_alloc ?_ _)); refine blk_put (cs := #[.string t129, .int .i64 0, .int .i64 0, .string (⟨#[]⟩ : ByteArray), .int .i64 0, .int .i64 0]) ?_ 1 _ rfl; (with_reducible repeat (first | refine blk_drewN ?_ _ | refine blk_drew ?_ | refine blk_alloc ?_ _)); refine blk_put (cs := #[.string (⟨#[]⟩ : ByteArray), .int .i64 0, .int .i64 0, .string (⟨#[]⟩ : ByteArray), .int .i64 0, .int .i64 0]) ?_ 0 _ rfl; (with_reducible repeat (first | refine blk_drewN ?_ _ | refine blk_drew ?_ | refine blk_alloc ?_ _)); refine blk_far ?_ NB127_128.out _; (with_reducible repeat (first | refine blk_drewN ?_ _ | refine blk_drew ?_ | refine blk_alloc ?_ _)); refine blk_far ?_ NB127_128.out _; (with_reducible repeat (first | refine blk_drewN ?_ _ | refine blk_drew ?_ | refine blk_alloc ?_ _)); refine blk_far ?_ NB127_128.out _; (with_reducible repeat (first | refine blk_drewN ?_ _ | refine blk_drew ?_ | refine blk_alloc ?_ _)); refine blk_far ?_ NB127_128.out _; (with_reducible repeat (first | refine blk_drewN ?_ _ | refine blk_drew ?_ | refine blk_alloc ?_ _)); refine blk_far ?_ NB127_128.out _; (with_reducible repeat (first | refine blk_drewN ?_ _ | refine blk_drew ?_ | refine blk_alloc ?_ _)); refine blk_far ?_ NB127_128.out _; (with_reducible repeat (first | refine blk_drewN ?_ _ | refine blk_drew ?_ | refine blk_alloc ?_ _)); exact BK127.out) Try.underlying83 rfl (z_0)) rfl ?_
 exact ⟨z_4, z_41⟩

/-! ### laws_toKeptS: function 35 -/
def laws_toKeptS.l0 : Nat → List (S81) → List (S83) → Int → Option ((List (S83)))
 | 0, _, _, _ => none
 | k + 1, x0, x3, x4 => if x4 < (x0.length : Int) then (if 0 ≤ x4 then ((laws_toKept.f ((rd_T81 x0 x4).f0.f0) ((rd_T81 x0 x4).f0.f1) ((rd_T81 x0 x4).f0.f2) ((rd_T81 x0 x4).f0.f3) ((rd_T81 x0 x4).f0.f4) ((rd_T81 x0 x4).f1)).bind fun bt138 => (if x4 < (x3.length : Int) then (laws_toKeptS.l0 k x0 (x3.set (x4 : Int).toNat (⟨(⟨bt138.1, bt138.2.1, bt138.2.2.1, bt138.2.2.2.1, bt138.2.2.2.2.1⟩ : S26), bt138.2.2.2.2.2⟩ : S83)) (wrap64 (x4 + 1))) else (none))) else (none)) else (some x3)
def laws_toKeptS.f (k : Nat) (l0 : List (S81)) : Option ((List (S83))) := if 0 ≤ (l0.length : Int) then (if ((l0.length : Int) : Int).toNat ≤ 4398046511104 then (laws_toKeptS.l0 k l0 (List.replicate ((l0.length : Int) : Int).toNat z83) 0) else (none)) else (none)
theorem laws_toKeptS.mono_l : ∀ k, (∀ y0 y1 y2, LeO (laws_toKeptS.l0 k y0 y1 y2) (laws_toKeptS.l0 (k + 1) y0 y1 y2))
 | 0 => fun _ _ _ r h => by simp [laws_toKeptS.l0] at h
 | k + 1 => by
  have ih0 := laws_toKeptS.mono_l k
  ·intro y0 y1 y2
   unfold laws_toKeptS.l0
   repeat' first
   | (with_reducible exact ih0 _ _ _)
   | (with_reducible exact LeO.refl _)
   | (with_reducible exact LeO.none _)
   | (with_reducible refine LeO.ite ?_ ?_)
   | (with_reducible refine LeO.bind ?_ (fun _ => ?_))
   | exact ih0 _ _ _
   | exact LeO.none _
   | refine LeO.ite ?_ ?_
   | refine LeO.bind ?_ (fun _ => ?_)
theorem laws_toKeptS.mono : ∀ a0 k, LeO (laws_toKeptS.f k a0) (laws_toKeptS.f (k + 1) a0) := by
 intro a0 k
 have ih0 := laws_toKeptS.mono_l k
 unfold laws_toKeptS.f
 repeat' first
   | (with_reducible exact ih0 _ _ _)
   | (with_reducible exact LeO.refl _)
   | (with_reducible exact LeO.none _)
   | (with_reducible refine LeO.ite ?_ ?_)
   | (with_reducible refine LeO.bind ?_ (fun _ => ?_))
   | exact ih0 _ _ _
   | exact LeO.none _
   | refine LeO.ite ?_ ?_
   | refine LeO.bind ?_ (fun _ => ?_)
set_option maxHeartbeats 8000000 in
set_option maxRecDepth 100000 in
theorem laws_toKeptS.calls (k : Nat) (A0 : Option Addr) (c0 : Nat) (l0 : List (S81)) (r : List (S83)) (w : World) (hr0 : Kd.C k81 w A0 l0.length l0) (hc0 : l0.length ≤ c0) (h : laws_toKeptS.f k l0 = some r) :
  Calls Try.prog 35 #[.slice A0 l0.length c0] w fun e w' => ∃ v0_ : Value, e = .returned (v0_) ∧ Kd.R k83 83 w' w.heap.size (fun _ => True) v0_ r ∧ Below w.heap.size w w' := by
 have hu81 := Try.underlying81
 have hu83 := Try.underlying83
 have HR0 := Aside0.mk hr0
 have HC0 := Aside0.mk hc0
 clear hr0 hc0
 have HB := Aside0.mk (Below.refl w.heap.size w)
 have H : (if 0 ≤ (l0.length : Int) then (if ((l0.length : Int) : Int).toNat ≤ 4398046511104 then (laws_toKeptS.l0 k l0 (List.replicate ((l0.length : Int) : Int).toNat z83) 0) else (none)) else (none)) = some r := h
 clear h
 by_cases c2 : 0 ≤ (l0.length : Int)
 ·rw [if_pos c2] at H
  have c2b0 := eq_true c2
  have c2b1 : decide (0 ≤ (l0.length : Int)) = true := decide_eq_true c2
  clear c2
  by_cases c3 : ((l0.length : Int) : Int).toNat ≤ 4398046511104
  ·rw [if_pos c3] at H
   have c3b0 := eq_true c3
   have c3b1 : decide (((l0.length : Int) : Int).toNat ≤ 4398046511104) = true := decide_eq_true c3
   clear c3
   obtain ⟨y134, hy134⟩ : ∃ y_ : List (S83), y_ = (List.replicate ((l0.length : Int) : Int).toNat z83) := ⟨_, rfl⟩
   replace H : (laws_toKeptS.l0 k l0 y134 0) = some r := by first | (rw [hy134]; with_reducible exact H) | (have H2_ := (Option.bind_some _ _).symm.trans H; rw [hy134]; with_reducible exact H2_) | (have H2_ := (Option.bind_some _ _).symm.trans H; with_reducible exact H2_) | with_reducible exact H | (rw [hy134]; exact H) | exact H
   have Ny134 := Aside0.mk hy134
   clear hy134
   have H' := Aside0.mk H
   clear H
   go_enter Try.func35, Try.ntmps35
   go_wp2_with (first | ((with_reducible refine gate_dst (N := 7) rfl ?_); refine Kd.R_make k83 _ 83 rfl (N := 7) rfl 48 _ _ rfl (l0.length : Int) rfl rfl Try.underlying48 (.agg #[(.string ⟨#[]⟩), (.int .i64 0), (.int .i64 0), (.string ⟨#[]⟩), (.int .i64 0), (.int .i64 0)]) 64 info83 rfl (z_19) (z_20) z83 (ok := fun _ => True) (okp := fun _ => True) (k83_mkM _ _ _ z83 ) (fun _ hk => hk) trivial (of_decide_eq_true (z_7)) (Nat.le_trans (Nat.mul_le_mul_right _ (of_decide_eq_true (z_7) : (l0.length : Int).toNat ≤ 4398046511104)) (z_20)) (Below.refl _ _) (Nat.le_refl _) ?_; intro v135 w4 ho5 hb hg_ hnew_; clear hg_ hnew_; (first | rw [← Ny134.out] at ho5 | (simp only [Int.reduceToNat] at ho5; rw [← Ny134.out] at ho5)); have n0_ := Aside0.mk (Kd.R_lower ho5 (below_size (z_2))); have n1_ := Aside0.mk (below_step (z_2) hb); clear HB; have HO136 := n0_; have HB := n1_; clear n0_ n1_; clear hb ho5))
   go_loopg [4] k (fun kq v4 w' => ∃ (x3_1 : List (S83)) (x4_1 : Int), v4 = .int .i64 x4_1 ∧ Aside0 (laws_toKeptS.l0 kq l0 x3_1 x4_1 = some r) ∧ Aside0 (kq ≤ k) ∧ Aside0 (Kd.R k83 83 w' w.heap.size (fun _ => True) v135 x3_1) ∧ Aside0 (Below w.heap.size w w'))
   case atStart => exact ⟨(y134), (0), (z_6), H', ⟨Nat.le_refl _⟩, ⟨by (with_reducible repeat (first | apply Kd.R_alloc | apply Kd.R_drewN | apply Kd.R_drew)); exact HO136.out⟩, ⟨z_2⟩⟩
   case round =>
    clear H'
    try clear c2
    try clear c2b0
    try clear c2b1
    try clear p2
    try clear c3
    try clear c3b0
    try clear c3b1
    obtain ⟨x3_1, x4_1, rfl, HA, HK1, HO_3, HB⟩ := hrel
    cases gk with
    | zero => exact absurd HA.out (by simp [laws_toKeptS.l0])
    | succ k1 =>
     have H := HA.out
     clear HA
     simp only [laws_toKeptS.l0] at H
     by_cases c6 : x4_1 < (l0.length : Int)
     ·rw [if_pos c6] at H
      have c6b0 : decide (x4_1 < (l0.length : Int)) = true := decide_eq_true c6
      clear c6
      by_cases c7 : 0 ≤ x4_1
      ·rw [if_pos c7] at H
       have c7b0 : decide (0 ≤ x4_1) = true := decide_eq_true c7
       clear c7
       replace H := Option.bind_eq_some_iff.mp H
       obtain ⟨⟨t138, t139, t140, t141, t142, t143⟩, A80, H⟩ := H
       replace H : (if x4_1 < (x3_1.length : Int) then (laws_toKeptS.l0 k1 l0 (x3_1.set (x4_1 : Int).toNat (⟨(⟨t138, t139, t140, t141, t142⟩ : S26), t143⟩ : S83)) (wrap64 (x4_1 + 1))) else (none)) = some r := H
       have A8 := Aside0.mk A80
       clear A80
       by_cases c9 : x4_1 < (x3_1.length : Int)
       ·rw [if_pos c9] at H
        have c9b0 : decide (x4_1 < (x3_1.length : Int)) = true := decide_eq_true c9
        clear c9
        obtain ⟨y144, hy144⟩ : ∃ y_ : List (S83), y_ = (x3_1.set (x4_1 : Int).toNat (⟨(⟨t138, t139, t140, t141, t142⟩ : S26), t143⟩ : S83)) := ⟨_, rfl⟩
        replace H : (laws_toKeptS.l0 k1 l0 y144 (wrap64 (x4_1 + 1))) = some r := by first | (rw [hy144]; with_reducible exact H) | (have H2_ := (Option.bind_some _ _).symm.trans H; rw [hy144]; with_reducible exact H2_) | (have H2_ := (Option.bind_some _ _).symm.trans H; with_reducible exact H2_) | with_reducible exact H | (rw [hy144]; exact H) | exact H
        have Ny144 := Aside0.mk hy144
        clear hy144
        have H' := Aside0.mk H
        clear H
        have p137 : 0 ≤ (x4_1 : Int) := of_decide_eq_true (z_7)
        have q137 : x4_1 < (l0.length : Int) := of_decide_eq_true (z_7)
        obtain ⟨ad137, e137, hx137_0, hx137_1, hx137_2, hx137_3, hx137_4, hx137_5⟩ := at_T81 HR0.out x4_1 p137 q137
        cases e137
        replace hx137_0 := pw_cell_below HB.out hx137_0
        replace hx137_1 := pw_cell_below HB.out hx137_1
        replace hx137_2 := pw_cell_below HB.out hx137_2
        replace hx137_3 := pw_cell_below HB.out hx137_3
        replace hx137_4 := pw_cell_below HB.out hx137_4
        replace hx137_5 := pw_cell_below HB.out hx137_5
        replace p137 := eq_true p137
        replace q137 := eq_true q137
        go_wp2_with (first | ((with_reducible refine gate_callee (f := 65) rfl ?_); refine goesL_ (some 20) rfl rfl Try.func65 (z_0) rfl #[.agg #[.string ((rd_T81 l0 x4_1).f0.f0), .int .i64 ((rd_T81 l0 x4_1).f0.f1), .int .i64 ((rd_T81 l0 x4_1).f0.f2), .string ((rd_T81 l0 x4_1).f0.f3), .int .i64 ((rd_T81 l0 x4_1).f0.f4), .int .i64 ((rd_T81 l0 x4_1).f1)]] rfl (z_8) ?_; (with_reducible refine (laws_toKept.calls ((rd_T81 l0 x4_1).f0.f0) ((rd_T81 l0 x4_1).f0.f1) ((rd_T81 l0 x4_1).f0.f2) ((rd_T81 l0 x4_1).f0.f3) ((rd_T81 l0 x4_1).f0.f4) ((rd_T81 l0 x4_1).f1) t138 t139 t140 t141 t142 t143 _ A8.out).mono ?_); rintro e w11 ⟨rfl, hb⟩; refine ⟨_, rfl, ?_⟩; have n0_ := Aside0.mk (Kd.R_below (z_21) hb); have n1_ := Aside0.mk (below_step (z_2) hb); clear HO_3; clear HB; have HO_3 := n0_; have HB := n1_; clear n0_ n1_; (try clear hb); (try clear hb2); (try clear hk); (try clear hi); have p10 : 0 ≤ (x4_1 : Int) := of_decide_eq_true (z_7); have q10 : (x4_1 : Int) < ((x3_1.length : Int) : Int) := of_decide_eq_true (z_7); obtain ⟨go10, co10, eo10, gb10, gl10, cl10, HG10⟩ := Kd.R_form HO_3.out (z_20); (first | cases eo10 | (injection eo10 with ea_ en_ ec_; (first | subst ea_ | (injection ea_ with ea_; subst ea_)); subst ec_; clear en_)); have GB10 := Aside0.mk gb10; have GG10 := Aside0.mk HG10; clear gb10 gl10 HG10; obtain ⟨ce10, hcl10, hM10, hcc10, hfr10⟩ := Kd.R_elem HO_3.out z83 (x4_1 : Int) p10 q10; obtain rfl := k83_openM hM10; have hx10_0 : w11.cell? ⟨go10, (x4_1 : Int).toNat * 6, none⟩ = some (.string ((rd_T83 x3_1 x4_1).f0.f0)) := hcc10 0 _ rfl; have hx10_1 : w11.cell? ⟨go10, (x4_1 : Int).toNat * 6 + 1, none⟩ = some (.int .i64 ((rd_T83 x3_1 x4_1).f0.f1)) := hcc10 1 _ rfl; have hx10_2 : w11.cell? ⟨go10, (x4_1 : Int).toNat * 6 + 2, none⟩ = some (.int .i64 ((rd_T83 x3_1 x4_1).f0.f2)) := hcc10 2 _ rfl; have hx10_3 : w11.cell? ⟨go10, (x4_1 : Int).toNat * 6 + 3, none⟩ = some (.string ((rd_T83 x3_1 x4_1).f0.f3)) := hcc10 3 _ rfl; have hx10_4 : w11.cell? ⟨go10, (x4_1 : Int).toNat * 6 + 4, none⟩ = some (.int .i64 ((rd_T83 x3_1 x4_1).f0.f4)) := hcc10 4 _ rfl; have hx10_5 : w11.cell? ⟨go10, (x4_1 : Int).toNat * 6 + 5, none⟩ = some (.int .i64 ((rd_T83 x3_1 x4_1).f1)) := hcc10 5 _ rfl; have hf10_0 : w11.frozen? ⟨go10, (x4_1 : Int).toNat * 6, none⟩ = false := hfr10 0; have hf10_1 : w11.frozen? ⟨go10, (x4_1 : Int).toNat * 6 + 1, none⟩ = false := hfr10 1; have hf10_2 : w11.frozen? ⟨go10, (x4_1 : Int).toNat * 6 + 2, none⟩ = false := hfr10 2; have hf10_3 : w11.frozen? ⟨go10, (x4_1 : Int).toNat * 6 + 3, none⟩ = false := hfr10 3; have hf10_4 : w11.frozen? ⟨go10, (x4_1 : Int).toNat * 6 + 4, none⟩ = false := hfr10 4; have hf10_5 : w11.frozen? ⟨go10, (x4_1 : Int).toNat * 6 + 5, none⟩ = false := hfr10 5; clear hcl10 hcc10 hfr10 hM10; replace p10 := eq_true p10; replace q10 := eq_true q10; have HX12 := Aside0.mk (show Kd.R k83 83 w11 w.heap.size (fun _ => True) (.slice (some ⟨go10, 0, none⟩) x3_1.length co10) x3_1 from (z_21)); obtain ⟨ce12, hcl12, hM12, hcc12, hfr12⟩ := Kd.R_elem HX12.out z83 (x4_1 : Int) (of_decide_eq_true (z_7)) (z_22); obtain rfl := k83_openM hM12; have HP12 := Kd.R_seg HX12.out (x4_1 : Int) (of_decide_eq_true (z_7)) (z_22) (seg := [.string t138, .int .i64 t139, .int .i64 t140, .string t141, .int .i64 t142, .int .i64 t143]) (j := 0) hcl12 hcc12 (show 6 ≤ 6 from z_19) (x' := (⟨(⟨t138, t139, t140, t141, t142⟩ : S26), t143⟩ : S83)) (k83_mkM _ _ _ (⟨(⟨t138, t139, t140, t141, t142⟩ : S26), t143⟩ : S83) ) (fun _ hk => hk); have hx12_0 := hcc12 0 _ rfl; (try simp only [show (k83).sz = 6 from rfl, Nat.mul_one, Nat.add_zero] at hx12_0); have hf12_0 := hfr12 0; (try simp only [show (k83).sz = 6 from rfl, Nat.mul_one, Nat.add_zero] at hf12_0); have hx12_1 := hcc12 1 _ rfl; (try simp only [show (k83).sz = 6 from rfl, Nat.mul_one, Nat.add_zero] at hx12_1); have hf12_1 := hfr12 1; (try simp only [show (k83).sz = 6 from rfl, Nat.mul_one, Nat.add_zero] at hf12_1); have hx12_2 := hcc12 2 _ rfl; (try simp only [show (k83).sz = 6 from rfl, Nat.mul_one, Nat.add_zero] at hx12_2); have hf12_2 := hfr12 2; (try simp only [show (k83).sz = 6 from rfl, Nat.mul_one, Nat.add_zero] at hf12_2); have hx12_3 := hcc12 3 _ rfl; (try simp only [show (k83).sz = 6 from rfl, Nat.mul_one, Nat.add_zero] at hx12_3); have hf12_3 := hfr12 3; (try simp only [show (k83).sz = 6 from rfl, Nat.mul_one, Nat.add_zero] at hf12_3); have hx12_4 := hcc12 4 _ rfl; (try simp only [show (k83).sz = 6 from rfl, Nat.mul_one, Nat.add_zero] at hx12_4); have hf12_4 := hfr12 4; (try simp only [show (k83).sz = 6 from rfl, Nat.mul_one, Nat.add_zero] at hf12_4); have hx12_5 := hcc12 5 _ rfl; (try simp only [show (k83).sz = 6 from rfl, Nat.mul_one, Nat.add_zero] at hx12_5); have hf12_5 := hfr12 5; (try simp only [show (k83).sz = 6 from rfl, Nat.mul_one, Nat.add_zero] at hf12_5); clear hcl12 hcc12 hfr12 hM12) | ((with_reducible refine gate_store (t := 83) (p := 21) rfl ?_); refine store_event (t := 83) (p := 21) (v := ?vo_w13) (w1 := ((((((w11.setCell ⟨go10, (x4_1 : Int).toNat * 6, none⟩ (.string t138)).setCell ⟨go10, (x4_1 : Int).toNat * 6 + 1, none⟩ (.int .i64 t139)).setCell ⟨go10, (x4_1 : Int).toNat * 6 + 2, none⟩ (.int .i64 t140)).setCell ⟨go10, (x4_1 : Int).toNat * 6 + 3, none⟩ (.string t141)).setCell ⟨go10, (x4_1 : Int).toNat * 6 + 4, none⟩ (.int .i64 t142)).setCell ⟨go10, (x4_1 : Int).toNat * 6 + 5, none⟩ (.int .i64 t143))) ?hg ?ho ?hn ?hr ?_; (case ho => rfl); (case hg => rfl); (case hn => rfl); (case hr => exact z_1); intro w13 hw; have hg : w11.grownBy w13 (some go10) := (by rw [hw]; exact HP12.2); have hp_ : Kd.R k83 83 w13 w.heap.size (fun _ => True) (.slice (some ⟨go10, 0, none⟩) x3_1.length co10) y144 := (by rw [hw, Ny144.out]; exact HP12.1); clear HP12; have n0_ := Aside0.mk (hp_); have n1_ := Aside0.mk ((by rw [hw]; exact below_set (below_set (below_set (below_set (below_set (below_set (HB.out) GB10.out) GB10.out) GB10.out) GB10.out) GB10.out) GB10.out : Below w.heap.size w w13)); clear HO_3; clear HB; have HO_3 := n0_; have HB := n1_; clear n0_ n1_; clear hg hw hp_))
        go_roundg k1
        case measure => have := HK1.out; omega
        case rel => exact ⟨(y144), (wrap64 (x4_1 + 1)), (z_6), H', ⟨z_9⟩, ⟨z_21⟩, ⟨z_2⟩⟩
       ·rw [if_neg c9] at H
        exact absurd H (z_10)
      ·rw [if_neg c7] at H
       exact absurd H (z_10)
     ·rw [if_neg c6] at H
      have c6b0 : decide (x4_1 < (l0.length : Int)) = false := decide_eq_false c6
      clear c6
      obtain rfl := Option.some.inj H
      go_wp2
      go_ret
      exact ⟨_, z_4, z_21, z_2⟩
  ·rw [if_neg c3] at H
   exact absurd H (z_10)
 ·rw [if_neg c2] at H
  exact absurd H (z_10)

/-! ### laws_eqKept: function 67 -/
def laws_eqKept.f (a0_0 : ByteArray) (a0_1 : Int) (a0_2 : Int) (a0_3 : ByteArray) (a0_4 : Int) (a0_5 : Int) (a1_0 : ByteArray) (a1_1 : Int) (a1_2 : Int) (a1_3 : ByteArray) (a1_4 : Int) (a1_5 : Int) : Option (Bool) := (laws_eqName.f a0_0 a0_1 a0_2 a0_3 a0_4 a1_0 a1_1 a1_2 a1_3 a1_4).bind fun t147 => (if t147 = true then (if a0_5 = a1_5 then (some true) else (some false)) else (some false))
set_option maxHeartbeats 8000000 in
set_option maxRecDepth 100000 in
theorem laws_eqKept.calls (a0_0 : ByteArray) (a0_1 : Int) (a0_2 : Int) (a0_3 : ByteArray) (a0_4 : Int) (a0_5 : Int) (a1_0 : ByteArray) (a1_1 : Int) (a1_2 : Int) (a1_3 : ByteArray) (a1_4 : Int) (a1_5 : Int) (r : Bool) (w : World) (h : laws_eqKept.f a0_0 a0_1 a0_2 a0_3 a0_4 a0_5 a1_0 a1_1 a1_2 a1_3 a1_4 a1_5 = some r) :
  Calls Try.prog 67 #[.agg #[.string a0_0, .int .i64 a0_1, .int .i64 a0_2, .string a0_3, .int .i64 a0_4, .int .i64 a0_5], .agg #[.string a1_0, .int .i64 a1_1, .int .i64 a1_2, .string a1_3, .int .i64 a1_4, .int .i64 a1_5]] w fun e w' => e = .returned (.bool r) ∧ Below w.heap.size w w' := by
 have hu83 := Try.underlying83
 have hu26 := Try.underlying26
 have HB := Aside0.mk (Below.refl w.heap.size w)
 have H : ((laws_eqName.f a0_0 a0_1 a0_2 a0_3 a0_4 a1_0 a1_1 a1_2 a1_3 a1_4).bind fun t147 => (if t147 = true then (if a0_5 = a1_5 then (some true) else (some false)) else (some false))) = some r := h
 clear h
 replace H := Option.bind_eq_some_iff.mp H
 obtain ⟨t147, A30, H⟩ := H
 have A3 := Aside0.mk A30
 clear A30
 by_cases c4 : t147 = true
 ·subst c4
  rw [if_pos rfl] at H
  by_cases c5 : a0_5 = a1_5
  ·rw [if_pos c5] at H
   have c5b0 : (a0_5 == a1_5) = true := beq_iff_eq.mpr c5
   have c5b1 : (a0_5 != a1_5) = false := bne_eq_false_iff_eq.mpr c5
   clear c5
   obtain rfl := Option.some.inj H
   go_enter Try.func67, Try.ntmps67
   go_wp2_with (first | ((with_reducible refine gate_dst (N := 2) rfl ?_); refine box_event ?hg (N := 2) ?hd (cs := #[.string a0_0, .int .i64 a0_1, .int .i64 a0_2, .string a0_3, .int .i64 a0_4, .int .i64 a0_5]) (t := 83) ?hr ?_; (case hd => rfl); (case hg => rfl); (case hr => exact z_1); intro gb145 hg w6 hbox hb; have n0_ := Aside0.mk (below_step (z_2) hb); have n1_ := Aside0.mk (hbox); have n2_ := Aside0.mk ((z_3 : w.heap.size ≤ gb145)); have n3_ := Aside0.mk ((z_3 : w.heap.size ≤ gb145)); clear HB; have HB := n0_; have BK145 := n1_; have GW145 := n2_; have GE145 := n3_; clear n0_ n1_ n2_ n3_; clear hb hbox hg) | ((with_reducible refine gate_dst (N := 3) rfl ?_); refine box_event ?hg (N := 3) ?hd (cs := #[.string a1_0, .int .i64 a1_1, .int .i64 a1_2, .string a1_3, .int .i64 a1_4, .int .i64 a1_5]) (t := 83) ?hr ?_; (case hd => rfl); (case hg => rfl); (case hr => exact z_1); intro gb146 hg w7 hbox hb; have n0_ := Aside0.mk (blk_below (g := gb145) (o := .cells #[.string a0_0, .int .i64 a0_1, .int .i64 a0_2, .string a0_3, .int .i64 a0_4, .int .i64 a0_5] 83 (0, 0)) (z_42) hb); have n1_ := Aside0.mk (below_step (z_43) hb); have n2_ := Aside0.mk (hbox); have n3_ := Aside0.mk ((z_44 : w.heap.size ≤ gb146)); have n4_ := Aside0.mk ((z_44 : w.heap.size ≤ gb146)); have n5_ := Aside0.mk ((z_45 : gb145 ≠ gb146)); have n6_ := Aside0.mk ((z_46 : gb146 ≠ gb145)); clear BK145; clear HB; have BK145 := n0_; have HB := n1_; have BK146 := n2_; have GW146 := n3_; have GE146 := n4_; have NB145_146 := n5_; have NB146_145 := n6_; clear n0_ n1_ n2_ n3_ n4_ n5_ n6_; clear hb hbox hg; have hnb8 := NB145_146.out; have hnc8 := NB146_145.out; have hcz9_0 : w7.cell? ⟨gb145, 0, none⟩ = some (.string a0_0) := (blk_cell BK145.out 0).trans rfl; have hcz9_1 : w7.cell? ⟨gb145, 1, none⟩ = some (.int .i64 a0_1) := (blk_cell BK145.out 1).trans rfl; have hcz9_2 : w7.cell? ⟨gb145, 2, none⟩ = some (.int .i64 a0_2) := (blk_cell BK145.out 2).trans rfl; have hcz9_3 : w7.cell? ⟨gb145, 3, none⟩ = some (.string a0_3) := (blk_cell BK145.out 3).trans rfl; have hcz9_4 : w7.cell? ⟨gb145, 4, none⟩ = some (.int .i64 a0_4) := (blk_cell BK145.out 4).trans rfl; have hcz9_5 : w7.cell? ⟨gb145, 5, none⟩ = some (.int .i64 a0_5) := (blk_cell BK145.out 5).trans rfl; have hfz9_0 := blk_frozen BK145.out 0; have hfz9_1 := blk_frozen BK145.out 1; have hfz9_2 := blk_frozen BK145.out 2; have hfz9_3 := blk_frozen BK145.out 3; have hfz9_4 := blk_frozen BK145.out 4; have hfz9_5 := blk_frozen BK145.out 5; have hcz10_0 : w7.cell? ⟨gb146, 0, none⟩ = some (.string a1_0) := (blk_cell BK146.out 0).trans rfl; have hcz10_1 : w7.cell? ⟨gb146, 1, none⟩ = some (.int .i64 a1_1) := (blk_cell BK146.out 1).trans rfl; have hcz10_2 : w7.cell? ⟨gb146, 2, none⟩ = some (.int .i64 a1_2) := (blk_cell BK146.out 2).trans rfl; have hcz10_3 : w7.cell? ⟨gb146, 3, none⟩ = some (.string a1_3) := (blk_cell BK146.out 3).trans rfl; have hcz10_4 : w7.cell? ⟨gb146, 4, none⟩ = some (.int .i64 a1_4) := (blk_cell BK146.out 4).trans rfl; have hcz10_5 : w7.cell? ⟨gb146, 5, none⟩ = some (.int .i64 a1_5) := (blk_cell BK146.out 5).trans rfl; have hfz10_0 := blk_frozen BK146.out 0; have hfz10_1 := blk_frozen BK146.out 1; have hfz10_2 := blk_frozen BK146.out 2; have hfz10_3 := blk_frozen BK146.out 3; have hfz10_4 := blk_frozen BK146.out 4; have hfz10_5 := blk_frozen BK146.out 5) | ((with_reducible refine gate_callee (f := 32) rfl ?_); refine goesL_ (some 9) rfl rfl Try.func32 (z_0) rfl #[.agg #[.string a0_0, .int .i64 a0_1, .int .i64 a0_2, .string a0_3, .int .i64 a0_4], .agg #[.string a1_0, .int .i64 a1_1, .int .i64 a1_2, .string a1_3, .int .i64 a1_4]] rfl (z_8) ?_; (with_reducible refine (laws_eqName.calls a0_0 a0_1 a0_2 a0_3 a0_4 a1_0 a1_1 a1_2 a1_3 a1_4 true _ A3.out).mono ?_); rintro e w11 ⟨rfl, hb⟩; refine ⟨_, rfl, ?_⟩; have n0_ := Aside0.mk (blk_below (g := gb145) (o := .cells #[.string a0_0, .int .i64 a0_1, .int .i64 a0_2, .string a0_3, .int .i64 a0_4, .int .i64 a0_5] 83 (0, 0)) (z_42) hb); have n1_ := Aside0.mk (blk_below (g := gb146) (o := .cells #[.string a1_0, .int .i64 a1_1, .int .i64 a1_2, .string a1_3, .int .i64 a1_4, .int .i64 a1_5] 83 (0, 0)) (z_47) hb); have n2_ := Aside0.mk (below_step (z_48) hb); clear BK145; clear BK146; clear HB; have BK145 := n0_; have BK146 := n1_; have HB := n2_; clear n0_ n1_ n2_; (try clear hb); (try clear hb2); (try clear hk); (try clear hi); have hcz12_0 : w11.cell? ⟨gb145, 0, none⟩ = some (.string a0_0) := (blk_cell BK145.out 0).trans rfl; have hcz12_1 : w11.cell? ⟨gb145, 1, none⟩ = some (.int .i64 a0_1) := (blk_cell BK145.out 1).trans rfl; have hcz12_2 : w11.cell? ⟨gb145, 2, none⟩ = some (.int .i64 a0_2) := (blk_cell BK145.out 2).trans rfl; have hcz12_3 : w11.cell? ⟨gb145, 3, none⟩ = some (.string a0_3) := (blk_cell BK145.out 3).trans rfl; have hcz12_4 : w11.cell? ⟨gb145, 4, none⟩ = some (.int .i64 a0_4) := (blk_cell BK145.out 4).trans rfl; have hcz12_5 : w11.cell? ⟨gb145, 5, none⟩ = some (.int .i64 a0_5) := (blk_cell BK145.out 5).trans rfl; have hfz12_0 := blk_frozen BK145.out 0; have hfz12_1 := blk_frozen BK145.out 1; have hfz12_2 := blk_frozen BK145.out 2; have hfz12_3 := blk_frozen BK145.out 3; have hfz12_4 := blk_frozen BK145.out 4; have hfz12_5 := blk_frozen BK145.out 5; have hcz13_0 : w11.cell? ⟨gb146, 0, none⟩ = some (.string a1_0) := (blk_cell BK146.out 0).trans rfl; have hcz13_1 : w11.cell? ⟨gb146, 1, none⟩ = some (.int .i64 a1_1) := (blk_cell BK146.out 1).trans rfl; have hcz13_2 : w11.cell? ⟨gb146, 2, none⟩ = some (.int .i64 a1_2) := (blk_cell BK146.out 2).trans rfl; have hcz13_3 : w11.cell? ⟨gb146, 3, none⟩ = some (.string a1_3) := (blk_cell BK146.out 3).trans rfl; have hcz13_4 : w11.cell? ⟨gb146, 4, none⟩ = some (.int .i64 a1_4) := (blk_cell BK146.out 4).trans rfl; have hcz13_5 : w11.cell? ⟨gb146, 5, none⟩ = some (.int .i64 a1_5) := (blk_cell BK146.out 5).trans rfl; have hfz13_0 := blk_frozen BK146.out 0; have hfz13_1 := blk_frozen BK146.out 1; have hfz13_2 := blk_frozen BK146.out 2; have hfz13_3 := blk_frozen BK146.out 3; have hfz13_4 := blk_frozen BK146.out 4; have hfz13_5 := blk_frozen BK146.out 5))
   go_ret
   exact ⟨z_4, z_48⟩
  ·rw [if_neg c5] at H
   have c5b0 : (a0_5 == a1_5) = false := beq_eq_false_iff_ne.mpr c5
   have c5b1 : (a0_5 != a1_5) = true := bne_iff_ne.mpr c5
   obtain rfl := Option.some.inj H
   go_enter Try.func67, Try.ntmps67
   go_wp2_with (first | ((with_reducible refine gate_dst (N := 2) rfl ?_); refine box_event ?hg (N := 2) ?hd (cs := #[.string a0_0, .int .i64 a0_1, .int .i64 a0_2, .string a0_3, .int .i64 a0_4, .int .i64 a0_5]) (t := 83) ?hr ?_; (case hd => rfl); (case hg => rfl); (case hr => exact z_1); intro gb145 hg w14 hbox hb; have n0_ := Aside0.mk (below_step (z_2) hb); have n1_ := Aside0.mk (hbox); have n2_ := Aside0.mk ((z_3 : w.heap.size ≤ gb145)); have n3_ := Aside0.mk ((z_3 : w.heap.size ≤ gb145)); clear HB; have HB := n0_; have BK145 := n1_; have GW145 := n2_; have GE145 := n3_; clear n0_ n1_ n2_ n3_; clear hb hbox hg) | ((with_reducible refine gate_dst (N := 3) rfl ?_); refine box_event ?hg (N := 3) ?hd (cs := #[.string a1_0, .int .i64 a1_1, .int .i64 a1_2, .string a1_3, .int .i64 a1_4, .int .i64 a1_5]) (t := 83) ?hr ?_; (case hd => rfl); (case hg => rfl); (case hr => exact z_1); intro gb146 hg w15 hbox hb; have n0_ := Aside0.mk (blk_below (g := gb145) (o := .cells #[.string a0_0, .int .i64 a0_1, .int .i64 a0_2, .string a0_3, .int .i64 a0_4, .int .i64 a0_5] 83 (0, 0)) (z_42) hb); have n1_ := Aside0.mk (below_step (z_43) hb); have n2_ := Aside0.mk (hbox); have n3_ := Aside0.mk ((z_44 : w.heap.size ≤ gb146)); have n4_ := Aside0.mk ((z_44 : w.heap.size ≤ gb146)); have n5_ := Aside0.mk ((z_45 : gb145 ≠ gb146)); have n6_ := Aside0.mk ((z_46 : gb146 ≠ gb145)); clear BK145; clear HB; have BK145 := n0_; have HB := n1_; have BK146 := n2_; have GW146 := n3_; have GE146 := n4_; have NB145_146 := n5_; have NB146_145 := n6_; clear n0_ n1_ n2_ n3_ n4_ n5_ n6_; clear hb hbox hg; have hnb16 := NB145_146.out; have hnc16 := NB146_145.out; have hcz17_0 : w15.cell? ⟨gb145, 0, none⟩ = some (.string a0_0) := (blk_cell BK145.out 0).trans rfl; have hcz17_1 : w15.cell? ⟨gb145, 1, none⟩ = some (.int .i64 a0_1) := (blk_cell BK145.out 1).trans rfl; have hcz17_2 : w15.cell? ⟨gb145, 2, none⟩ = some (.int .i64 a0_2) := (blk_cell BK145.out 2).trans rfl; have hcz17_3 : w15.cell? ⟨gb145, 3, none⟩ = some (.string a0_3) := (blk_cell BK145.out 3).trans rfl; have hcz17_4 : w15.cell? ⟨gb145, 4, none⟩ = some (.int .i64 a0_4) := (blk_cell BK145.out 4).trans rfl; have hcz17_5 : w15.cell? ⟨gb145, 5, none⟩ = some (.int .i64 a0_5) := (blk_cell BK145.out 5).trans rfl; have hfz17_0 := blk_frozen BK145.out 0; have hfz17_1 := blk_frozen BK145.out 1; have hfz17_2 := blk_frozen BK145.out 2; have hfz17_3 := blk_frozen BK145.out 3; have hfz17_4 := blk_frozen BK145.out 4; have hfz17_5 := blk_frozen BK145.out 5; have hcz18_0 : w15.cell? ⟨gb146, 0, none⟩ = some (.string a1_0) := (blk_cell BK146.out 0).trans rfl; have hcz18_1 : w15.cell? ⟨gb146, 1, none⟩ = some (.int .i64 a1_1) := (blk_cell BK146.out 1).trans rfl; have hcz18_2 : w15.cell? ⟨gb146, 2, none⟩ = some (.int .i64 a1_2) := (blk_cell BK146.out 2).trans rfl; have hcz18_3 : w15.cell? ⟨gb146, 3, none⟩ = some (.string a1_3) := (blk_cell BK146.out 3).trans rfl; have hcz18_4 : w15.cell? ⟨gb146, 4, none⟩ = some (.int .i64 a1_4) := (blk_cell BK146.out 4).trans rfl; have hcz18_5 : w15.cell? ⟨gb146, 5, none⟩ = some (.int .i64 a1_5) := (blk_cell BK146.out 5).trans rfl; have hfz18_0 := blk_frozen BK146.out 0; have hfz18_1 := blk_frozen BK146.out 1; have hfz18_2 := blk_frozen BK146.out 2; have hfz18_3 := blk_frozen BK146.out 3; have hfz18_4 := blk_frozen BK146.out 4; have hfz18_5 := blk_frozen BK146.out 5) | ((with_reducible refine gate_callee (f := 32) rfl ?_); refine goesL_ (some 9) rfl rfl Try.func32 (z_0) rfl #[.agg #[.string a0_0, .int .i64 a0_1, .int .i64 a0_2, .string a0_3, .int .i64 a0_4], .agg #[.string a1_0, .int .i64 a1_1, .int .i64 a1_2, .string a1_3, .int .i64 a1_4]] rfl (z_8) ?_; (with_reducible refine (laws_eqName.calls a0_0 a0_1 a0_2 a0_3 a0_4 a1_0 a1_1 a1_2 a1_3 a1_4 true _ A3.out).mono ?_); rintro e w19 ⟨rfl, hb⟩; refine ⟨_, rfl, ?_⟩; have n0_ := Aside0.mk (blk_below (g := gb145) (o := .cells #[.string a0_0, .int .i64 a0_1, .int .i64 a0_2, .string a0_3, .int .i64 a0_4, .int .i64 a0_5] 83 (0, 0)) (z_42) hb); have n1_ := Aside0.mk (blk_below (g := gb146) (o := .cells #[.string a1_0, .int .i64 a1_1, .int .i64 a1_2, .string a1_3, .int .i64 a1_4, .int .i64 a1_5] 83 (0, 0)) (z_47) hb); have n2_ := Aside0.mk (below_step (z_48) hb); clear BK145; clear BK146; clear HB; have BK145 := n0_; have BK146 := n1_; have HB := n2_; clear n0_ n1_ n2_; (try clear hb); (try clear hb2); (try clear hk); (try clear hi); have hcz20_0 : w19.cell? ⟨gb145, 0, none⟩ = some (.string a0_0) := (blk_cell BK145.out 0).trans rfl; have hcz20_1 : w19.cell? ⟨gb145, 1, none⟩ = some (.int .i64 a0_1) := (blk_cell BK145.out 1).trans rfl; have hcz20_2 : w19.cell? ⟨gb145, 2, none⟩ = some (.int .i64 a0_2) := (blk_cell BK145.out 2).trans rfl; have hcz20_3 : w19.cell? ⟨gb145, 3, none⟩ = some (.string a0_3) := (blk_cell BK145.out 3).trans rfl; have hcz20_4 : w19.cell? ⟨gb145, 4, none⟩ = some (.int .i64 a0_4) := (blk_cell BK145.out 4).trans rfl; have hcz20_5 : w19.cell? ⟨gb145, 5, none⟩ = some (.int .i64 a0_5) := (blk_cell BK145.out 5).trans rfl; have hfz20_0 := blk_frozen BK145.out 0; have hfz20_1 := blk_frozen BK145.out 1; have hfz20_2 := blk_frozen BK145.out 2; have hfz20_3 := blk_frozen BK145.out 3; have hfz20_4 := blk_frozen BK145.out 4; have hfz20_5 := blk_frozen BK145.out 5; have hcz21_0 : w19.cell? ⟨gb146, 0, none⟩ = some (.string a1_0) := (blk_cell BK146.out 0).trans rfl; have hcz21_1 : w19.cell? ⟨gb146, 1, none⟩ = some (.int .i64 a1_1) := (blk_cell BK146.out 1).trans rfl; have hcz21_2 : w19.cell? ⟨gb146, 2, none⟩ = some (.int .i64 a1_2) := (blk_cell BK146.out 2).trans rfl; have hcz21_3 : w19.cell? ⟨gb146, 3, none⟩ = some (.string a1_3) := (blk_cell BK146.out 3).trans rfl; have hcz21_4 : w19.cell? ⟨gb146, 4, none⟩ = some (.int .i64 a1_4) := (blk_cell BK146.out 4).trans rfl; have hcz21_5 : w19.cell? ⟨gb146, 5, none⟩ = some (.int .i64 a1_5) := (blk_cell BK146.out 5).trans rfl; have hfz21_0 := blk_frozen BK146.out 0; have hfz21_1 := blk_frozen BK146.out 1; have hfz21_2 := blk_frozen BK146.out 2; have hfz21_3 := blk_frozen BK146.out 3; have hfz21_4 := blk_frozen BK146.out 4; have hfz21_5 := blk_frozen BK146.out 5))
   go_ret
   exact ⟨z_4, z_48⟩
 ·replace c4 := Bool.eq_false_iff.mpr c4
  subst c4
  rw [if_neg (show ¬ (false = true) by decide)] at H
  obtain rfl := Option.some.inj H
  go_enter Try.func67, Try.ntmps67
  go_wp2_with (first | ((with_reducible refine gate_dst (N := 2) rfl ?_); refine box_event ?hg (N := 2) ?hd (cs := #[.string a0_0, .int .i64 a0_1, .int .i64 a0_2, .string a0_3, .int .i64 a0_4, .int .i64 a0_5]) (t := 83) ?hr ?_; (case hd => rfl); (case hg => rfl); (case hr => exact z_1); intro gb145 hg w22 hbox hb; have n0_ := Aside0.mk (below_step (z_2) hb); have n1_ := Aside0.mk (hbox); have n2_ := Aside0.mk ((z_3 : w.heap.size ≤ gb145)); have n3_ := Aside0.mk ((z_3 : w.heap.size ≤ gb145)); clear HB; have HB := n0_; have BK145 := n1_; have GW145 := n2_; have GE145 := n3_; clear n0_ n1_ n2_ n3_; clear hb hbox hg) | ((with_reducible refine gate_dst (N := 3) rfl ?_); refine box_event ?hg (N := 3) ?hd (cs := #[.string a1_0, .int .i64 a1_1, .int .i64 a1_2, .string a1_3, .int .i64 a1_4, .int .i64 a1_5]) (t := 83) ?hr ?_; (case hd => rfl); (case hg => rfl); (case hr => exact z_1); intro gb146 hg w23 hbox hb; have n0_ := Aside0.mk (blk_below (g := gb145) (o := .cells #[.string a0_0, .int .i64 a0_1, .int .i64 a0_2, .string a0_3, .int .i64 a0_4, .int .i64 a0_5] 83 (0, 0)) (z_42) hb); have n1_ := Aside0.mk (below_step (z_43) hb); have n2_ := Aside0.mk (hbox); have n3_ := Aside0.mk ((z_44 : w.heap.size ≤ gb146)); have n4_ := Aside0.mk ((z_44 : w.heap.size ≤ gb146)); have n5_ := Aside0.mk ((z_45 : gb145 ≠ gb146)); have n6_ := Aside0.mk ((z_46 : gb146 ≠ gb145)); clear BK145; clear HB; have BK145 := n0_; have HB := n1_; have BK146 := n2_; have GW146 := n3_; have GE146 := n4_; have NB145_146 := n5_; have NB146_145 := n6_; clear n0_ n1_ n2_ n3_ n4_ n5_ n6_; clear hb hbox hg; have hnb24 := NB145_146.out; have hnc24 := NB146_145.out; have hcz25_0 : w23.cell? ⟨gb145, 0, none⟩ = some (.string a0_0) := (blk_cell BK145.out 0).trans rfl; have hcz25_1 : w23.cell? ⟨gb145, 1, none⟩ = some (.int .i64 a0_1) := (blk_cell BK145.out 1).trans rfl; have hcz25_2 : w23.cell? ⟨gb145, 2, none⟩ = some (.int .i64 a0_2) := (blk_cell BK145.out 2).trans rfl; have hcz25_3 : w23.cell? ⟨gb145, 3, none⟩ = some (.string a0_3) := (blk_cell BK145.out 3).trans rfl; have hcz25_4 : w23.cell? ⟨gb145, 4, none⟩ = some (.int .i64 a0_4) := (blk_cell BK145.out 4).trans rfl; have hcz25_5 : w23.cell? ⟨gb145, 5, none⟩ = some (.int .i64 a0_5) := (blk_cell BK145.out 5).trans rfl; have hfz25_0 := blk_frozen BK145.out 0; have hfz25_1 := blk_frozen BK145.out 1; have hfz25_2 := blk_frozen BK145.out 2; have hfz25_3 := blk_frozen BK145.out 3; have hfz25_4 := blk_frozen BK145.out 4; have hfz25_5 := blk_frozen BK145.out 5; have hcz26_0 : w23.cell? ⟨gb146, 0, none⟩ = some (.string a1_0) := (blk_cell BK146.out 0).trans rfl; have hcz26_1 : w23.cell? ⟨gb146, 1, none⟩ = some (.int .i64 a1_1) := (blk_cell BK146.out 1).trans rfl; have hcz26_2 : w23.cell? ⟨gb146, 2, none⟩ = some (.int .i64 a1_2) := (blk_cell BK146.out 2).trans rfl; have hcz26_3 : w23.cell? ⟨gb146, 3, none⟩ = some (.string a1_3) := (blk_cell BK146.out 3).trans rfl; have hcz26_4 : w23.cell? ⟨gb146, 4, none⟩ = some (.int .i64 a1_4) := (blk_cell BK146.out 4).trans rfl; have hcz26_5 : w23.cell? ⟨gb146, 5, none⟩ = some (.int .i64 a1_5) := (blk_cell BK146.out 5).trans rfl; have hfz26_0 := blk_frozen BK146.out 0; have hfz26_1 := blk_frozen BK146.out 1; have hfz26_2 := blk_frozen BK146.out 2; have hfz26_3 := blk_frozen BK146.out 3; have hfz26_4 := blk_frozen BK146.out 4; have hfz26_5 := blk_frozen BK146.out 5) | ((with_reducible refine gate_callee (f := 32) rfl ?_); refine goesL_ (some 9) rfl rfl Try.func32 (z_0) rfl #[.agg #[.string a0_0, .int .i64 a0_1, .int .i64 a0_2, .string a0_3, .int .i64 a0_4], .agg #[.string a1_0, .int .i64 a1_1, .int .i64 a1_2, .string a1_3, .int .i64 a1_4]] rfl (z_8) ?_; (with_reducible refine (laws_eqName.calls a0_0 a0_1 a0_2 a0_3 a0_4 a1_0 a1_1 a1_2 a1_3 a1_4 false _ A3.out).mono ?_); rintro e w27 ⟨rfl, hb⟩; refine ⟨_, rfl, ?_⟩; have n0_ := Aside0.mk (blk_below (g := gb145) (o := .cells #[.string a0_0, .int .i64 a0_1, .int .i64 a0_2, .string a0_3, .int .i64 a0_4, .int .i64 a0_5] 83 (0, 0)) (z_42) hb); have n1_ := Aside0.mk (blk_below (g := gb146) (o := .cells #[.string a1_0, .int .i64 a1_1, .int .i64 a1_2, .string a1_3, .int .i64 a1_4, .int .i64 a1_5] 83 (0, 0)) (z_47) hb); have n2_ := Aside0.mk (below_step (z_48) hb); clear BK145; clear BK146; clear HB; have BK145 := n0_; have BK146 := n1_; have HB := n2_; clear n0_ n1_ n2_; (try clear hb); (try clear hb2); (try clear hk); (try clear hi)))
  go_ret
  exact ⟨z_4, z_48⟩

/-! ### laws_eqKeptS: function 37 -/
def laws_eqKeptS.l0 : Nat → List (S83) → List (S83) → Int → Option (Bool)
 | 0, _, _, _ => none
 | k + 1, x0, x1, x5 => if x5 < (x0.length : Int) then (if 0 ≤ x5 then (if x5 < (x1.length : Int) then ((laws_eqKept.f ((rd_T83 x0 x5).f0.f0) ((rd_T83 x0 x5).f0.f1) ((rd_T83 x0 x5).f0.f2) ((rd_T83 x0 x5).f0.f3) ((rd_T83 x0 x5).f0.f4) ((rd_T83 x0 x5).f1) ((rd_T83 x1 x5).f0.f0) ((rd_T83 x1 x5).f0.f1) ((rd_T83 x1 x5).f0.f2) ((rd_T83 x1 x5).f0.f3) ((rd_T83 x1 x5).f0.f4) ((rd_T83 x1 x5).f1)).bind fun t150 => (if t150 = true then (laws_eqKeptS.l0 k x0 x1 (wrap64 (x5 + 1))) else (some false))) else (none)) else (none)) else (some true)
def laws_eqKeptS.f (k : Nat) (l0 : List (S83)) (l1 : List (S83)) : Option (Bool) := if (l0.length : Int) = (l1.length : Int) then (laws_eqKeptS.l0 k l0 l1 0) else (some false)
theorem laws_eqKeptS.mono_l : ∀ k, (∀ y0 y1 y2, LeO (laws_eqKeptS.l0 k y0 y1 y2) (laws_eqKeptS.l0 (k + 1) y0 y1 y2))
 | 0 => fun _ _ _ r h => by simp [laws_eqKeptS.l0] at h
 | k + 1 => by
  have ih0 := laws_eqKeptS.mono_l k
  ·intro y0 y1 y2
   unfold laws_eqKeptS.l0
   repeat' first
   | (with_reducible exact ih0 _ _ _)
   | (with_reducible exact LeO.refl _)
   | (with_reducible exact LeO.none _)
   | (with_reducible refine LeO.ite ?_ ?_)
   | (with_reducible refine LeO.bind ?_ (fun _ => ?_))
   | exact ih0 _ _ _
   | exact LeO.none _
   | refine LeO.ite ?_ ?_
   | refine LeO.bind ?_ (fun _ => ?_)
theorem laws_eqKeptS.mono : ∀ a0 a1 k, LeO (laws_eqKeptS.f k a0 a1) (laws_eqKeptS.f (k + 1) a0 a1) := by
 intro a0 a1 k
 have ih0 := laws_eqKeptS.mono_l k
 unfold laws_eqKeptS.f
 repeat' first
   | (with_reducible exact ih0 _ _ _)
   | (with_reducible exact LeO.refl _)
   | (with_reducible exact LeO.none _)
   | (with_reducible refine LeO.ite ?_ ?_)
   | (with_reducible refine LeO.bind ?_ (fun _ => ?_))
   | exact ih0 _ _ _
   | exact LeO.none _
   | refine LeO.ite ?_ ?_
   | refine LeO.bind ?_ (fun _ => ?_)
def laws_eqKeptS.T6 : Bool × List (List Nat × List Nat) := (true, [([], []), ([], []), ([0, 1], [0, 1]), ([2], [2]), ([], []), ([], []), ([4, 5], [4, 5]), ([6], [6]), ([3, 7], [3, 7]), ([8], [8])])
def laws_eqKeptS.B6 : List Nat := [0, 0, 3, 7, 0, 0, 48, 112, 255, 511]
theorem laws_eqKeptS.tab6 : rtab .any (opsOf Try.f37 6) = laws_eqKeptS.T6 := z_0
theorem laws_eqKeptS.bits6 : waitsOk laws_eqKeptS.T6.2 laws_eqKeptS.B6 = true := z_0
set_option maxHeartbeats 8000000 in
set_option maxRecDepth 100000 in
theorem laws_eqKeptS.calls (k : Nat) (A0 : Option Addr) (c0 : Nat) (l0 : List (S83)) (A1 : Option Addr) (c1 : Nat) (l1 : List (S83)) (r : Bool) (w : World) (hr0 : Kd.C k83 w A0 l0.length l0) (hc0 : l0.length ≤ c0) (hr1 : Kd.C k83 w A1 l1.length l1) (hc1 : l1.length ≤ c1) (h : laws_eqKeptS.f k l0 l1 = some r) :
  Calls Try.prog 37 #[.slice A0 l0.length c0, .slice A1 l1.length c1] w fun e w' => e = .returned (.bool r) ∧ Below w.heap.size w w' := by
 have hu83 := Try.underlying83
 have HR0 := Aside0.mk hr0
 have HC0 := Aside0.mk hc0
 clear hr0 hc0
 have HR1 := Aside0.mk hr1
 have HC1 := Aside0.mk hc1
 clear hr1 hc1
 have HB := Aside0.mk (Below.refl w.heap.size w)
 have H : (if (l0.length : Int) = (l1.length : Int) then (laws_eqKeptS.l0 k l0 l1 0) else (some false)) = some r := h
 clear h
 by_cases c3 : (l0.length : Int) = (l1.length : Int)
 ·rw [if_pos c3] at H
  have c3b0 : ((l0.length : Int) == (l1.length : Int)) = true := beq_iff_eq.mpr c3
  have c3b1 : ((l0.length : Int) != (l1.length : Int)) = false := bne_eq_false_iff_eq.mpr c3
  have c3b2 : (l0.length == l1.length) = true := z_29
  clear c3
  have H' := Aside0.mk H
  clear H
  go_enter Try.func37, Try.ntmps37
  go_wp2
  go_loopg [5] k (fun kq v5 w' => ∃ (x5_1 : Int), v5 = .int .i64 x5_1 ∧ Aside0 (laws_eqKeptS.l0 kq l0 l1 x5_1 = some r) ∧ Aside0 (kq ≤ k) ∧ Aside0 (Below w.heap.size w w'))
  case atStart => exact ⟨(0), (z_6), H', ⟨Nat.le_refl _⟩, ⟨z_2⟩⟩
  case round =>
   clear H'
   try clear c1
   try clear p2
   try clear c3
   try clear c3b0
   try clear c3b1
   try clear c3b2
   obtain ⟨x5_1, rfl, HA, HK1, HB⟩ := hrel
   cases gk with
   | zero => exact absurd HA.out (by simp [laws_eqKeptS.l0])
   | succ k1 =>
    have H := HA.out
    clear HA
    simp only [laws_eqKeptS.l0] at H
    by_cases c4 : x5_1 < (l0.length : Int)
    ·rw [if_pos c4] at H
     have c4b0 : decide (x5_1 < (l0.length : Int)) = true := decide_eq_true c4
     clear c4
     by_cases c5 : 0 ≤ x5_1
     ·rw [if_pos c5] at H
      have c5b0 : decide (0 ≤ x5_1) = true := decide_eq_true c5
      clear c5
      by_cases c6 : x5_1 < (l1.length : Int)
      ·rw [if_pos c6] at H
       have c6b0 : decide (x5_1 < (l1.length : Int)) = true := decide_eq_true c6
       clear c6
       replace H := Option.bind_eq_some_iff.mp H
       obtain ⟨t150, A70, H⟩ := H
       have A7 := Aside0.mk A70
       clear A70
       by_cases c8 : t150 = true
       ·subst c8
        rw [if_pos rfl] at H
        have H' := Aside0.mk H
        clear H
        try go_wp2
        have n0_ := Aside0.mk (below_drew1 HB.out)
        clear HB
        have HB := n0_
        clear n0_
        have p148 : 0 ≤ (x5_1 : Int) := of_decide_eq_true (z_7)
        have q148 : x5_1 < (l0.length : Int) := of_decide_eq_true (z_7)
        obtain ⟨ad148, e148, hx148_0, hx148_1, hx148_2, hx148_3, hx148_4, hx148_5⟩ := at_T83 HR0.out x5_1 p148 q148
        have hw148_5 := hx148_5
        have hw148_4 := hx148_4
        have hw148_3 := hx148_3
        have hw148_2 := hx148_2
        have hw148_1 := hx148_1
        have hw148_0 := hx148_0
        cases e148
        replace hx148_0 := pw_cell_below HB.out hx148_0
        replace hx148_1 := pw_cell_below HB.out hx148_1
        replace hx148_2 := pw_cell_below HB.out hx148_2
        replace hx148_3 := pw_cell_below HB.out hx148_3
        replace hx148_4 := pw_cell_below HB.out hx148_4
        replace hx148_5 := pw_cell_below HB.out hx148_5
        replace p148 := eq_true p148
        replace q148 := eq_true q148
        have p149 : 0 ≤ (x5_1 : Int) := of_decide_eq_true (z_7)
        have q149 : x5_1 < (l1.length : Int) := of_decide_eq_true (z_7)
        obtain ⟨ad149, e149, hx149_0, hx149_1, hx149_2, hx149_3, hx149_4, hx149_5⟩ := at_T83 HR1.out x5_1 p149 q149
        have hw149_5 := hx149_5
        have hw149_4 := hx149_4
        have hw149_3 := hx149_3
        have hw149_2 := hx149_2
        have hw149_1 := hx149_1
        have hw149_0 := hx149_0
        cases e149
        replace hx149_0 := pw_cell_below HB.out hx149_0
        replace hx149_1 := pw_cell_below HB.out hx149_1
        replace hx149_2 := pw_cell_below HB.out hx149_2
        replace hx149_3 := pw_cell_below HB.out hx149_3
        replace hx149_4 := pw_cell_below HB.out hx149_4
        replace hx149_5 := pw_cell_below HB.out hx149_5
        replace p149 := eq_true p149
        replace q149 := eq_true q149
        refine start_ (n := 10) (S := fun w' => w'.cell? (ad148.add ((x5_1).toNat * 6)) = some (.string ((rd_T83 l0 x5_1).f0.f0)) ∧ w'.cell? ⟨(ad148.add ((x5_1).toNat * 6)).block, (ad148.add ((x5_1).toNat * 6)).off + 1, none⟩ = some (.int .i64 ((rd_T83 l0 x5_1).f0.f1)) ∧ w'.cell? ⟨(ad148.add ((x5_1).toNat * 6)).block, (ad148.add ((x5_1).toNat * 6)).off + 2, none⟩ = some (.int .i64 ((rd_T83 l0 x5_1).f0.f2)) ∧ w'.cell? ⟨(ad148.add ((x5_1).toNat * 6)).block, (ad148.add ((x5_1).toNat * 6)).off + 3, none⟩ = some (.string ((rd_T83 l0 x5_1).f0.f3)) ∧ w'.cell? ⟨(ad148.add ((x5_1).toNat * 6)).block, (ad148.add ((x5_1).toNat * 6)).off + 4, none⟩ = some (.int .i64 ((rd_T83 l0 x5_1).f0.f4)) ∧ w'.cell? ⟨(ad148.add ((x5_1).toNat * 6)).block, (ad148.add ((x5_1).toNat * 6)).off + 5, none⟩ = some (.int .i64 ((rd_T83 l0 x5_1).f1)) ∧ w'.cell? (ad149.add ((x5_1).toNat * 6)) = some (.string ((rd_T83 l1 x5_1).f0.f0)) ∧ w'.cell? ⟨(ad149.add ((x5_1).toNat * 6)).block, (ad149.add ((x5_1).toNat * 6)).off + 1, none⟩ = some (.int .i64 ((rd_T83 l1 x5_1).f0.f1)) ∧ w'.cell? ⟨(ad149.add ((x5_1).toNat * 6)).block, (ad149.add ((x5_1).toNat * 6)).off + 2, none⟩ = some (.int .i64 ((rd_T83 l1 x5_1).f0.f2)) ∧ w'.cell? ⟨(ad149.add ((x5_1).toNat * 6)).block, (ad149.add ((x5_1).toNat * 6)).off + 3, none⟩ = some (.string ((rd_T83 l1 x5_1).f0.f3)) ∧ w'.cell? ⟨(ad149.add ((x5_1).toNat * 6)).block, (ad149.add ((x5_1).toNat * 6)).off + 4, none⟩ = some (.int .i64 ((rd_T83 l1 x5_1).f0.f4)) ∧ w'.cell? ⟨(ad149.add ((x5_1).toNat * 6)).block, (ad149.add ((x5_1).toNat * 6)).off + 5, none⟩ = some (.int .i64 ((rd_T83 l1 x5_1).f1))) (ds := []) #[F,F,F,F,F,F,F,F,F,F] (z_0) rfl rfl ⟨(pw_cell_below HB.out hw148_0), (pw_cell_below HB.out hw148_1), (pw_cell_below HB.out hw148_2), (pw_cell_below HB.out hw148_3), (pw_cell_below HB.out hw148_4), (pw_cell_below HB.out hw148_5), (pw_cell_below HB.out hw149_0), (pw_cell_below HB.out hw149_1), (pw_cell_below HB.out hw149_2), (pw_cell_below HB.out hw149_3), (pw_cell_below HB.out hw149_4), (pw_cell_below HB.out hw149_5)⟩ (fun hHeld => ?_); refine with_tabW laws_eqKeptS.tab6 laws_eqKeptS.bits6 (fun HT_ HW_ => ?_)
        generalize wr.drew = w9 at HB hx148_0 hx148_1 hx148_2 hx148_3 hx148_4 hx148_5 hx149_0 hx149_1 hx149_2 hx149_3 hx149_4 hx149_5 hHeld ⊢
        refine pure_ (i := 0) (N := some 17) (v := ?_) (a' := ?_) #[T,F,F,F,F,F,F,F,F,F] rfl rfl (any_of HT_.out (z_0)) (fun _ _ _ h => h) (Or.inl ⟨z_30, ?_⟩) ?_ ?_
        rotate_left
        ·intro w'
         go_simp
         with_reducible rfl
        rotate_left
        ·simp only [Act.put, List.setIfInBounds_toArray, List.set_cons_zero, List.set_cons_succ, i64_w, i32_w]
         rfl
        refine pure_ (i := 1) (N := some 18) (v := ?_) (a' := ?_) #[T,T,F,F,F,F,F,F,F,F] rfl rfl (any_of HT_.out (z_0)) (fun _ _ _ h => h) (Or.inl ⟨z_30, ?_⟩) ?_ ?_
        rotate_left
        ·intro w'
         go_simp
         with_reducible rfl
        rotate_left
        ·simp only [Act.put, List.setIfInBounds_toArray, List.set_cons_zero, List.set_cons_succ, i64_w, i32_w]
         rfl
        refine pure_ (i := 2) (N := some 19) (v := ?_) (a' := ?_) #[T,T,T,F,F,F,F,F,F,F] rfl rfl (any_of HT_.out (z_0)) (fun _ _ _ h => h) (Or.inl ⟨z_30, ?_⟩) ?_ ?_
        rotate_left
        ·intro w'
         go_simp
         with_reducible rfl
        rotate_left
        ·simp only [Act.put, List.setIfInBounds_toArray, List.set_cons_zero, List.set_cons_succ, i64_w, i32_w]
         rfl
        refine pure_ (i := 4) (N := some 21) (v := ?_) (a' := ?_) #[T,T,T,F,T,F,F,F,F,F] rfl rfl (any_of HT_.out (z_0)) (fun _ _ _ h => h) (Or.inl ⟨z_30, ?_⟩) ?_ ?_
        rotate_left
        ·intro w'
         go_simp
         with_reducible rfl
        rotate_left
        ·simp only [Act.put, List.setIfInBounds_toArray, List.set_cons_zero, List.set_cons_succ, i64_w, i32_w]
         rfl
        refine pure_ (i := 5) (N := some 22) (v := ?_) (a' := ?_) #[T,T,T,F,T,T,F,F,F,F] rfl rfl (any_of HT_.out (z_0)) (fun _ _ _ h => h) (Or.inl ⟨z_30, ?_⟩) ?_ ?_
        rotate_left
        ·intro w'
         go_simp
         with_reducible rfl
        rotate_left
        ·simp only [Act.put, List.setIfInBounds_toArray, List.set_cons_zero, List.set_cons_succ, i64_w, i32_w]
         rfl
        refine pure_ (i := 6) (N := some 23) (v := ?_) (a' := ?_) #[T,T,T,F,T,T,T,F,F,F] rfl rfl (any_of HT_.out (z_0)) (fun _ _ _ h => h) (Or.inl ⟨z_30, ?_⟩) ?_ ?_
        rotate_left
        ·intro w'
         go_simp
         with_reducible rfl
        rotate_left
        ·simp only [Act.put, List.setIfInBounds_toArray, List.set_cons_zero, List.set_cons_succ, i64_w, i32_w]
         rfl
        refine take_ (i := 3) (N := some 20) (v := ?_) (a' := ?_) #[T,T,T,T,T,T,T,F,F,F] rfl rfl (take_ofW HT_.out HW_.out (z_0)) (fun _ _ _ h => h) (Or.inl ⟨z_30, ?_⟩) hHeld ?_ ?_
        rotate_left
        ·rintro w' ⟨s0, s1, s2, s3, s4, s5, s6, s7, s8, s9, s10, s11⟩
         go_simp
         with_reducible rfl
        rotate_left
        ·simp only [Act.put, List.setIfInBounds_toArray, List.set_cons_zero, List.set_cons_succ, i64_w, i32_w]
         rfl
        refine take_ (i := 7) (N := some 24) (v := ?_) (a' := ?_) #[T,T,T,T,T,T,T,T,F,F] rfl rfl (take_ofW HT_.out HW_.out (z_0)) (fun _ _ _ h => h) (Or.inl ⟨z_30, ?_⟩) hHeld ?_ ?_
        rotate_left
        ·rintro w' ⟨s0, s1, s2, s3, s4, s5, s6, s7, s8, s9, s10, s11⟩
         go_simp
         with_reducible rfl
        rotate_left
        ·simp only [Act.put, List.setIfInBounds_toArray, List.set_cons_zero, List.set_cons_succ, i64_w, i32_w]
         rfl
        refine one_ (i := 8) (N := some 25) #[T,T,T,T,T,T,T,T,T,F] rfl rfl (one_of HT_.out (z_0)) (z_19) (fun K hK => ?_)
        refine goes_ Try.func67 (z_0) rfl #[.agg #[.string ((rd_T83 l0 x5_1).f0.f0), .int .i64 ((rd_T83 l0 x5_1).f0.f1), .int .i64 ((rd_T83 l0 x5_1).f0.f2), .string ((rd_T83 l0 x5_1).f0.f3), .int .i64 ((rd_T83 l0 x5_1).f0.f4), .int .i64 ((rd_T83 l0 x5_1).f1)], .agg #[.string ((rd_T83 l1 x5_1).f0.f0), .int .i64 ((rd_T83 l1 x5_1).f0.f1), .int .i64 ((rd_T83 l1 x5_1).f0.f2), .string ((rd_T83 l1 x5_1).f0.f3), .int .i64 ((rd_T83 l1 x5_1).f0.f4), .int .i64 ((rd_T83 l1 x5_1).f1)]] (z_30) rfl rfl (z_8) ?_
        with_reducible refine (laws_eqKept.calls ((rd_T83 l0 x5_1).f0.f0) ((rd_T83 l0 x5_1).f0.f1) ((rd_T83 l0 x5_1).f0.f2) ((rd_T83 l0 x5_1).f0.f3) ((rd_T83 l0 x5_1).f0.f4) ((rd_T83 l0 x5_1).f1) ((rd_T83 l1 x5_1).f0.f0) ((rd_T83 l1 x5_1).f0.f1) ((rd_T83 l1 x5_1).f0.f2) ((rd_T83 l1 x5_1).f0.f3) ((rd_T83 l1 x5_1).f0.f4) ((rd_T83 l1 x5_1).f1) true _ A7.out).mono ?_
        rintro e w10 ⟨rfl, hb⟩
        refine ⟨_, rfl, ?_⟩
        have n0_ := Aside0.mk (below_step (z_2) hb)
        clear HB
        have HB := n0_
        clear n0_
        (try clear hb)
        (try clear hb2)
        (try clear hk)
        (try clear hi)
        refine hK.out _ _ ⟨(pw_cell_below HB.out hw148_0), (pw_cell_below HB.out hw148_1), (pw_cell_below HB.out hw148_2), (pw_cell_below HB.out hw148_3), (pw_cell_below HB.out hw148_4), (pw_cell_below HB.out hw148_5), (pw_cell_below HB.out hw149_0), (pw_cell_below HB.out hw149_1), (pw_cell_below HB.out hw149_2), (pw_cell_below HB.out hw149_3), (pw_cell_below HB.out hw149_4), (pw_cell_below HB.out hw149_5)⟩ (fun hHeld => ?_)
        clear hK K
        refine norm_ (a' := ?_) ?_ ?_
        rotate_left
        ·show Act.put _ (some 25) _ = _
         simp only [Act.put, List.setIfInBounds_toArray, List.set_cons_zero, List.set_cons_succ, i64_w, i32_w]
         rfl
        refine pure_ (i := 9) (N := some 26) (v := ?_) (a' := ?_) #[T,T,T,T,T,T,T,T,T,T] rfl rfl (any_of HT_.out (z_0)) (fun _ _ _ h => h) (Or.inl ⟨z_30, ?_⟩) ?_ ?_
        rotate_left
        ·intro w'
         go_simp
         with_reducible rfl
        rotate_left
        ·simp only [Act.put, List.setIfInBounds_toArray, List.set_cons_zero, List.set_cons_succ, i64_w, i32_w]
         rfl
        refine done_ (done_of HT_.out (z_0)) ?_
        try go_wp2
        go_roundg k1
        case measure => have := HK1.out; omega
        case rel => exact ⟨(wrap64 (x5_1 + 1)), (z_6), H', ⟨z_9⟩, ⟨z_2⟩⟩
       ·replace c8 := Bool.eq_false_iff.mpr c8
        subst c8
        rw [if_neg (show ¬ (false = true) by decide)] at H
        obtain rfl := Option.some.inj H
        try go_wp2
        have n0_ := Aside0.mk (below_drew1 HB.out)
        clear HB
        have HB := n0_
        clear n0_
        have p148 : 0 ≤ (x5_1 : Int) := of_decide_eq_true (z_7)
        have q148 : x5_1 < (l0.length : Int) := of_decide_eq_true (z_7)
        obtain ⟨ad148, e148, hx148_0, hx148_1, hx148_2, hx148_3, hx148_4, hx148_5⟩ := at_T83 HR0.out x5_1 p148 q148
        have hw148_5 := hx148_5
        have hw148_4 := hx148_4
        have hw148_3 := hx148_3
        have hw148_2 := hx148_2
        have hw148_1 := hx148_1
        have hw148_0 := hx148_0
        cases e148
        replace hx148_0 := pw_cell_below HB.out hx148_0
        replace hx148_1 := pw_cell_below HB.out hx148_1
        replace hx148_2 := pw_cell_below HB.out hx148_2
        replace hx148_3 := pw_cell_below HB.out hx148_3
        replace hx148_4 := pw_cell_below HB.out hx148_4
        replace hx148_5 := pw_cell_below HB.out hx148_5
        replace p148 := eq_true p148
        replace q148 := eq_true q148
        have p149 : 0 ≤ (x5_1 : Int) := of_decide_eq_true (z_7)
        have q149 : x5_1 < (l1.length : Int) := of_decide_eq_true (z_7)
        obtain ⟨ad149, e149, hx149_0, hx149_1, hx149_2, hx149_3, hx149_4, hx149_5⟩ := at_T83 HR1.out x5_1 p149 q149
        have hw149_5 := hx149_5
        have hw149_4 := hx149_4
        have hw149_3 := hx149_3
        have hw149_2 := hx149_2
        have hw149_1 := hx149_1
        have hw149_0 := hx149_0
        cases e149
        replace hx149_0 := pw_cell_below HB.out hx149_0
        replace hx149_1 := pw_cell_below HB.out hx149_1
        replace hx149_2 := pw_cell_below HB.out hx149_2
        replace hx149_3 := pw_cell_below HB.out hx149_3
        replace hx149_4 := pw_cell_below HB.out hx149_4
        replace hx149_5 := pw_cell_below HB.out hx149_5
        replace p149 := eq_true p149
        replace q149 := eq_true q149
        refine start_ (n := 10) (S := fun w' => w'.cell? (ad148.add ((x5_1).toNat * 6)) = some (.string ((rd_T83 l0 x5_1).f0.f0)) ∧ w'.cell? ⟨(ad148.add ((x5_1).toNat * 6)).block, (ad148.add ((x5_1).toNat * 6)).off + 1, none⟩ = some (.int .i64 ((rd_T83 l0 x5_1).f0.f1)) ∧ w'.cell? ⟨(ad148.add ((x5_1).toNat * 6)).block, (ad148.add ((x5_1).toNat * 6)).off + 2, none⟩ = some (.int .i64 ((rd_T83 l0 x5_1).f0.f2)) ∧ w'.cell? ⟨(ad148.add ((x5_1).toNat * 6)).block, (ad148.add ((x5_1).toNat * 6)).off + 3, none⟩ = some (.string ((rd_T83 l0 x5_1).f0.f3)) ∧ w'.cell? ⟨(ad148.add ((x5_1).toNat * 6)).block, (ad148.add ((x5_1).toNat * 6)).off + 4, none⟩ = some (.int .i64 ((rd_T83 l0 x5_1).f0.f4)) ∧ w'.cell? ⟨(ad148.add ((x5_1).toNat * 6)).block, (ad148.add ((x5_1).toNat * 6)).off + 5, none⟩ = some (.int .i64 ((rd_T83 l0 x5_1).f1)) ∧ w'.cell? (ad149.add ((x5_1).toNat * 6)) = some (.string ((rd_T83 l1 x5_1).f0.f0)) ∧ w'.cell? ⟨(ad149.add ((x5_1).toNat * 6)).block, (ad149.add ((x5_1).toNat * 6)).off + 1, none⟩ = some (.int .i64 ((rd_T83 l1 x5_1).f0.f1)) ∧ w'.cell? ⟨(ad149.add ((x5_1).toNat * 6)).block, (ad149.add ((x5_1).toNat * 6)).off + 2, none⟩ = some (.int .i64 ((rd_T83 l1 x5_1).f0.f2)) ∧ w'.cell? ⟨(ad149.add ((x5_1).toNat * 6)).block, (ad149.add ((x5_1).toNat * 6)).off + 3, none⟩ = some (.string ((rd_T83 l1 x5_1).f0.f3)) ∧ w'.cell? ⟨(ad149.add ((x5_1).toNat * 6)).block, (ad149.add ((x5_1).toNat * 6)).off + 4, none⟩ = some (.int .i64 ((rd_T83 l1 x5_1).f0.f4)) ∧ w'.cell? ⟨(ad149.add ((x5_1).toNat * 6)).block, (ad149.add ((x5_1).toNat * 6)).off + 5, none⟩ = some (.int .i64 ((rd_T83 l1 x5_1).f1))) (ds := []) #[F,F,F,F,F,F,F,F,F,F] (z_0) rfl rfl ⟨(pw_cell_below HB.out hw148_0), (pw_cell_below HB.out hw148_1), (pw_cell_below HB.out hw148_2), (pw_cell_below HB.out hw148_3), (pw_cell_below HB.out hw148_4), (pw_cell_below HB.out hw148_5), (pw_cell_below HB.out hw149_0), (pw_cell_below HB.out hw149_1), (pw_cell_below HB.out hw149_2), (pw_cell_below HB.out hw149_3), (pw_cell_below HB.out hw149_4), (pw_cell_below HB.out hw149_5)⟩ (fun hHeld => ?_); refine with_tabW laws_eqKeptS.tab6 laws_eqKeptS.bits6 (fun HT_ HW_ => ?_)
        generalize wr.drew = w11 at HB hx148_0 hx148_1 hx148_2 hx148_3 hx148_4 hx148_5 hx149_0 hx149_1 hx149_2 hx149_3 hx149_4 hx149_5 hHeld ⊢
        refine pure_ (i := 0) (N := some 17) (v := ?_) (a' := ?_) #[T,F,F,F,F,F,F,F,F,F] rfl rfl (any_of HT_.out (z_0)) (fun _ _ _ h => h) (Or.inl ⟨z_30, ?_⟩) ?_ ?_
        rotate_left
        ·intro w'
         go_simp
         with_reducible rfl
        rotate_left
        ·simp only [Act.put, List.setIfInBounds_toArray, List.set_cons_zero, List.set_cons_succ, i64_w, i32_w]
         rfl
        refine pure_ (i := 1) (N := some 18) (v := ?_) (a' := ?_) #[T,T,F,F,F,F,F,F,F,F] rfl rfl (any_of HT_.out (z_0)) (fun _ _ _ h => h) (Or.inl ⟨z_30, ?_⟩) ?_ ?_
        rotate_left
        ·intro w'
         go_simp
         with_reducible rfl
        rotate_left
        ·simp only [Act.put, List.setIfInBounds_toArray, List.set_cons_zero, List.set_cons_succ, i64_w, i32_w]
         rfl
        refine pure_ (i := 2) (N := some 19) (v := ?_) (a' := ?_) #[T,T,T,F,F,F,F,F,F,F] rfl rfl (any_of HT_.out (z_0)) (fun _ _ _ h => h) (Or.inl ⟨z_30, ?_⟩) ?_ ?_
        rotate_left
        ·intro w'
         go_simp
         with_reducible rfl
        rotate_left
        ·simp only [Act.put, List.setIfInBounds_toArray, List.set_cons_zero, List.set_cons_succ, i64_w, i32_w]
         rfl
        refine pure_ (i := 4) (N := some 21) (v := ?_) (a' := ?_) #[T,T,T,F,T,F,F,F,F,F] rfl rfl (any_of HT_.out (z_0)) (fun _ _ _ h => h) (Or.inl ⟨z_30, ?_⟩) ?_ ?_
        rotate_left
        ·intro w'
         go_simp
         with_reducible rfl
        rotate_left
        ·simp only [Act.put, List.setIfInBounds_toArray, List.set_cons_zero, List.set_cons_succ, i64_w, i32_w]
         rfl
        refine pure_ (i := 5) (N := some 22) (v := ?_) (a' := ?_) #[T,T,T,F,T,T,F,F,F,F] rfl rfl (any_of HT_.out (z_0)) (fun _ _ _ h => h) (Or.inl ⟨z_30, ?_⟩) ?_ ?_
        rotate_left
        ·intro w'
         go_simp
         with_reducible rfl
        rotate_left
        ·simp only [Act.put, List.setIfInBounds_toArray, List.set_cons_zero, List.set_cons_succ, i64_w, i32_w]
         rfl
        refine pure_ (i := 6) (N := some 23) (v := ?_) (a' := ?_) #[T,T,T,F,T,T,T,F,F,F] rfl rfl (any_of HT_.out (z_0)) (fun _ _ _ h => h) (Or.inl ⟨z_30, ?_⟩) ?_ ?_
        rotate_left
        ·intro w'
         go_simp
         with_reducible rfl
        rotate_left
        ·simp only [Act.put, List.setIfInBounds_toArray, List.set_cons_zero, List.set_cons_succ, i64_w, i32_w]
         rfl
        refine take_ (i := 3) (N := some 20) (v := ?_) (a' := ?_) #[T,T,T,T,T,T,T,F,F,F] rfl rfl (take_ofW HT_.out HW_.out (z_0)) (fun _ _ _ h => h) (Or.inl ⟨z_30, ?_⟩) hHeld ?_ ?_
        rotate_left
        ·rintro w' ⟨s0, s1, s2, s3, s4, s5, s6, s7, s8, s9, s10, s11⟩
         go_simp
         with_reducible rfl
        rotate_left
        ·simp only [Act.put, List.setIfInBounds_toArray, List.set_cons_zero, List.set_cons_succ, i64_w, i32_w]
         rfl
        refine take_ (i := 7) (N := some 24) (v := ?_) (a' := ?_) #[T,T,T,T,T,T,T,T,F,F] rfl rfl (take_ofW HT_.out HW_.out (z_0)) (fun _ _ _ h => h) (Or.inl ⟨z_30, ?_⟩) hHeld ?_ ?_
        rotate_left
        ·rintro w' ⟨s0, s1, s2, s3, s4, s5, s6, s7, s8, s9, s10, s11⟩
         go_simp
         with_reducible rfl
        rotate_left
        ·simp only [Act.put, List.setIfInBounds_toArray, List.set_cons_zero, List.set_cons_succ, i64_w, i32_w]
         rfl
        refine one_ (i := 8) (N := some 25) #[T,T,T,T,T,T,T,T,T,F] rfl rfl (one_of HT_.out (z_0)) (z_19) (fun K hK => ?_)
        refine goes_ Try.func67 (z_0) rfl #[.agg #[.string ((rd_T83 l0 x5_1).f0.f0), .int .i64 ((rd_T83 l0 x5_1).f0.f1), .int .i64 ((rd_T83 l0 x5_1).f0.f2), .string ((rd_T83 l0 x5_1).f0.f3), .int .i64 ((rd_T83 l0 x5_1).f0.f4), .int .i64 ((rd_T83 l0 x5_1).f1)], .agg #[.string ((rd_T83 l1 x5_1).f0.f0), .int .i64 ((rd_T83 l1 x5_1).f0.f1), .int .i64 ((rd_T83 l1 x5_1).f0.f2), .string ((rd_T83 l1 x5_1).f0.f3), .int .i64 ((rd_T83 l1 x5_1).f0.f4), .int .i64 ((rd_T83 l1 x5_1).f1)]] (z_30) rfl rfl (z_8) ?_
        with_reducible refine (laws_eqKept.calls ((rd_T83 l0 x5_1).f0.f0) ((rd_T83 l0 x5_1).f0.f1) ((rd_T83 l0 x5_1).f0.f2) ((rd_T83 l0 x5_1).f0.f3) ((rd_T83 l0 x5_1).f0.f4) ((rd_T83 l0 x5_1).f1) ((rd_T83 l1 x5_1).f0.f0) ((rd_T83 l1 x5_1).f0.f1) ((rd_T83 l1 x5_1).f0.f2) ((rd_T83 l1 x5_1).f0.f3) ((rd_T83 l1 x5_1).f0.f4) ((rd_T83 l1 x5_1).f1) false _ A7.out).mono ?_
        rintro e w12 ⟨rfl, hb⟩
        refine ⟨_, rfl, ?_⟩
        have n0_ := Aside0.mk (below_step (z_2) hb)
        clear HB
        have HB := n0_
        clear n0_
        (try clear hb)
        (try clear hb2)
        (try clear hk)
        (try clear hi)
        refine hK.out _ _ ⟨(pw_cell_below HB.out hw148_0), (pw_cell_below HB.out hw148_1), (pw_cell_below HB.out hw148_2), (pw_cell_below HB.out hw148_3), (pw_cell_below HB.out hw148_4), (pw_cell_below HB.out hw148_5), (pw_cell_below HB.out hw149_0), (pw_cell_below HB.out hw149_1), (pw_cell_below HB.out hw149_2), (pw_cell_below HB.out hw149_3), (pw_cell_below HB.out hw149_4), (pw_cell_below HB.out hw149_5)⟩ (fun hHeld => ?_)
        clear hK K
        refine norm_ (a' := ?_) ?_ ?_
        rotate_left
        ·show Act.put _ (some 25) _ = _
         simp only [Act.put, List.setIfInBounds_toArray, List.set_cons_zero, List.set_cons_succ, i64_w, i32_w]
         rfl
        refine pure_ (i := 9) (N := some 26) (v := ?_) (a' := ?_) #[T,T,T,T,T,T,T,T,T,T] rfl rfl (any_of HT_.out (z_0)) (fun _ _ _ h => h) (Or.inl ⟨z_30, ?_⟩) ?_ ?_
        rotate_left
        ·intro w'
         go_simp
         with_reducible rfl
        rotate_left
        ·simp only [Act.put, List.setIfInBounds_toArray, List.set_cons_zero, List.set_cons_succ, i64_w, i32_w]
         rfl
        refine done_ (done_of HT_.out (z_0)) ?_
        try go_wp2
        go_ret
        exact ⟨z_4, z_2⟩
      ·rw [if_neg c6] at H
       exact absurd H (z_10)
     ·rw [if_neg c5] at H
      exact absurd H (z_10)
    ·rw [if_neg c4] at H
     have c4b0 : decide (x5_1 < (l0.length : Int)) = false := decide_eq_false c4
     clear c4
     obtain rfl := Option.some.inj H
     go_wp2
     go_ret
     exact ⟨z_4, z_2⟩
 ·rw [if_neg c3] at H
  have c3b0 : ((l0.length : Int) == (l1.length : Int)) = false := beq_eq_false_iff_ne.mpr c3
  have c3b1 : ((l0.length : Int) != (l1.length : Int)) = true := bne_iff_ne.mpr c3
  have c3b2 : (l0.length == l1.length) = false := z_29
  obtain rfl := Option.some.inj H
  go_enter Try.func37, Try.ntmps37
  go_wp2
  go_ret
  exact ⟨z_4, z_2⟩

-- NOT PRINTED: function 70 (impl_follow)

/-! ### impl_in: function 57 -/
def impl_in.f (a0 : Int) (a1 : Int) (a2 : Int) : Option (Bool) := if a0 ≥ a1 then (some (decide (a0 ≤ a2))) else (some false)
set_option maxHeartbeats 8000000 in
set_option maxRecDepth 100000 in
theorem impl_in.calls (a0 : Int) (a1 : Int) (a2 : Int) (r : Bool) (w : World) (h : impl_in.f a0 a1 a2 = some r) :
  Calls Try.prog 57 #[.int .i64 a0, .int .i64 a1, .int .i64 a2] w fun e w' => e = .returned (.bool r) ∧ Drawn0 w w' := by
 have H : (if a0 ≥ a1 then (some (decide (a0 ≤ a2))) else (some false)) = some r := h
 clear h
 by_cases c4 : a0 ≥ a1
 ·rw [if_pos c4] at H
  have c4b0 : decide (a1 ≤ a0) = true := decide_eq_true c4
  clear c4
  obtain rfl := Option.some.inj H
  go_enter Try.func57, Try.ntmps57
  go_wp2
  go_ret
  exact ⟨by first | rfl | (simp; done) | (simp [*]; done), by repeat (first | exact Drawn0.refl _ | apply Drawn0.step)⟩
 ·rw [if_neg c4] at H
  have c4b0 : decide (a1 ≤ a0) = false := decide_eq_false c4
  clear c4
  obtain rfl := Option.some.inj H
  go_enter Try.func57, Try.ntmps57
  go_wp2
  go_ret
  exact ⟨by first | rfl | (simp; done) | (simp [*]; done), by repeat (first | exact Drawn0.refl _ | apply Drawn0.step)⟩

end Go.Proofs.Ytmgnmgobibpjjaa.GFnExactKeptFind
