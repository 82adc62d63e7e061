/- What the Go functions that FnKeptFind reaches come to, walked step by step; there is no condition beyond those each statement names. -/
import Derived.Test.YtmgnmgobibpjjaaGFnKeptFindx0
import Derived.Test.YtmgnmgobibpjjaaGFnKeptFindx7
import Derived.Test.YtmgnmgobibpjjaaGFnKeptFindx8
import Derived.Test.YtmgnmgobibpjjaaGFnKeptFindx9
namespace Go.Proofs.Ytmgnmgobibpjjaa.GFnKeptFind
open Go.RowKit Go.Proofs.YtmgnmgobibpjjaaVKeptFind.PrintWords Go.Proofs.YtmgnmgobibpjjaaVKeptFind.PrintLast Go.Proofs.YtmgnmgobibpjjaaVKeptFind.PrintMore
attribute [local go_sem] max2_int min2_int max_two min_two max_three min_three max_four min_four   -- for this text's walks alone
set_option linter.unusedVariables false
set_option linter.unusedSimpArgs false

/-! ### spec_NameAsk: function 30 -/
mutual
def spec_NameAsk.j0 : Nat → List (S26) → ByteArray → Bool → Option (ByteArray × Int × Int × ByteArray × Int × Bool)
 | 0, _, _, _ => none
 | k + 1, x0, x1, x14 => if x14 = true then (some ((⟨#[]⟩ : ByteArray), 0, 0, (⟨#[]⟩ : ByteArray), 0, false)) else (spec_NameAsk.l0 k x0 x1 0)
def spec_NameAsk.l0 : Nat → List (S26) → ByteArray → Int → Option (ByteArray × Int × Int × ByteArray × Int × Bool)
 | 0, _, _, _ => none
 | k + 1, x0, x1, x6 => if x6 < (x0.length : Int) then (if 0 ≤ x6 then (if ((rd_T26 x0 x6).f0).toList = x1.toList then (some ((rd_T26 x0 x6).f0, (rd_T26 x0 x6).f1, (rd_T26 x0 x6).f2, (rd_T26 x0 x6).f3, (rd_T26 x0 x6).f4, true)) else (spec_NameAsk.l0 k x0 x1 (wrap64 (x6 + 1)))) else (none)) else (some (x1, 0, 0, (⟨#[]⟩ : ByteArray), 5, true))
end
def spec_NameAsk.f (k : Nat) (l0 : List (S26)) (a1 : ByteArray) : Option (ByteArray × Int × Int × ByteArray × Int × Bool) := (spec_NamesOk.f k l0).bind fun t240 => (if t240 = true then ((spec_l19Word.f k a1).bind fun t241 => (spec_NameAsk.j0 k l0 a1 (!t241))) else (spec_NameAsk.j0 k l0 a1 true))
theorem spec_NameAsk.mono_l : ∀ k, (∀ y0 y1 y2, LeO (spec_NameAsk.j0 k y0 y1 y2) (spec_NameAsk.j0 (k + 1) y0 y1 y2)) ∧ (∀ y0 y1 y2, LeO (spec_NameAsk.l0 k y0 y1 y2) (spec_NameAsk.l0 (k + 1) y0 y1 y2))
 | 0 => ⟨fun _ _ _ r h => by simp [spec_NameAsk.j0] at h, fun _ _ _ r h => by simp [spec_NameAsk.l0] at h⟩
 | k + 1 => by
  obtain ⟨ih0, ih1⟩ := spec_NameAsk.mono_l k
  refine ⟨?_, ?_⟩
  ·intro y0 y1 y2
   unfold spec_NameAsk.j0
   repeat' first
   | (with_reducible exact ih0 _ _ _)
   | (with_reducible exact ih1 _ _ _)
   | (with_reducible exact spec_NamesOk.mono _ _)
   | (with_reducible exact spec_l19Word.mono _ _)
   | (with_reducible exact LeO.refl _)
   | (with_reducible exact LeO.none _)
   | (with_reducible refine LeO.ite ?_ ?_)
   | (with_reducible refine LeO.bind ?_ (fun _ => ?_))
   | exact ih0 _ _ _
   | exact ih1 _ _ _
   | exact spec_NamesOk.mono _ _
   | exact spec_l19Word.mono _ _
   | exact LeO.none _
   | refine LeO.ite ?_ ?_
   | refine LeO.bind ?_ (fun _ => ?_)
  ·intro y0 y1 y2
   unfold spec_NameAsk.l0
   repeat' first
   | (with_reducible exact ih0 _ _ _)
   | (with_reducible exact ih1 _ _ _)
   | (with_reducible exact spec_NamesOk.mono _ _)
   | (with_reducible exact spec_l19Word.mono _ _)
   | (with_reducible exact LeO.refl _)
   | (with_reducible exact LeO.none _)
   | (with_reducible refine LeO.ite ?_ ?_)
   | (with_reducible refine LeO.bind ?_ (fun _ => ?_))
   | exact ih0 _ _ _
   | exact ih1 _ _ _
   | exact spec_NamesOk.mono _ _
   | exact spec_l19Word.mono _ _
   | exact LeO.none _
   | refine LeO.ite ?_ ?_
   | refine LeO.bind ?_ (fun _ => ?_)
theorem spec_NameAsk.mono : ∀ a0 a1 k, LeO (spec_NameAsk.f k a0 a1) (spec_NameAsk.f (k + 1) a0 a1) := by
 intro a0 a1 k
 obtain ⟨ih0, ih1⟩ := spec_NameAsk.mono_l k
 unfold spec_NameAsk.f
 repeat' first
   | (with_reducible exact ih0 _ _ _)
   | (with_reducible exact ih1 _ _ _)
   | (with_reducible exact spec_NamesOk.mono _ _)
   | (with_reducible exact spec_l19Word.mono _ _)
   | (with_reducible exact LeO.refl _)
   | (with_reducible exact LeO.none _)
   | (with_reducible refine LeO.ite ?_ ?_)
   | (with_reducible refine LeO.bind ?_ (fun _ => ?_))
   | exact ih0 _ _ _
   | exact ih1 _ _ _
   | exact spec_NamesOk.mono _ _
   | exact spec_l19Word.mono _ _
   | exact LeO.none _
   | refine LeO.ite ?_ ?_
   | refine LeO.bind ?_ (fun _ => ?_)
set_option maxHeartbeats 8000000 in
set_option maxRecDepth 100000 in
theorem spec_NameAsk.calls (k : Nat) (A0 : Option Addr) (c0 : Nat) (l0 : List (S26)) (a1 : ByteArray) (r1 : ByteArray) (r2 : Int) (r3 : Int) (r4 : ByteArray) (r5 : Int) (r6 : Bool) (w : World) (hr0 : Kd.C k26 w A0 l0.length l0) (hc0 : l0.length ≤ c0) (h : spec_NameAsk.f k l0 a1 = some (r1, r2, r3, r4, r5, r6)) :
  Calls Try.prog 30 #[.slice A0 l0.length c0, .string a1] w fun e w' => e = .returned (.tuple #[.agg #[.string r1, .int .i64 r2, .int .i64 r3, .string r4, .int .i64 r5], .bool r6]) ∧ Below w.heap.size w w' := by
 have hu26 := Try.underlying26
 have HR0 := Aside0.mk hr0
 have HC0 := Aside0.mk hc0
 clear hr0 hc0
 have HB := Aside0.mk (Below.refl w.heap.size w)
 have H : ((spec_NamesOk.f k l0).bind fun t240 => (if t240 = true then ((spec_l19Word.f k a1).bind fun t241 => (spec_NameAsk.j0 k l0 a1 (!t241))) else (spec_NameAsk.j0 k l0 a1 true))) = some (r1, r2, r3, r4, r5, r6) := h
 clear h
 have HC3 := Aside0.mk H
 clear H
 go_enter Try.func30, Try.ntmps30
 go_upto_region 1 with (first | ((with_reducible refine gate_dst (N := 4) rfl ?_); refine box_event ?hg (N := 4) ?hd (cs := #[.string (⟨#[]⟩ : ByteArray), .int .i64 0, .int .i64 0, .string (⟨#[]⟩ : ByteArray), .int .i64 0]) (t := 26) ?hr ?_; (case hd => rfl); (case hg => rfl); (case hr => exact z_9); intro gb239 hg w4 hbox hb; have n0_ := Aside0.mk (below_step (z_8) hb); have n1_ := Aside0.mk (hbox); have n2_ := Aside0.mk ((z_20 : w.heap.size ≤ gb239)); have n3_ := Aside0.mk ((z_20 : w.heap.size ≤ gb239)); clear HB; have HB := n0_; have BK239 := n1_; have GW239 := n2_; have GE239 := n3_; clear n0_ n1_ n2_ n3_; clear hb hbox hg))
 (try simp only [Act.put, List.setIfInBounds_toArray, List.set_cons_zero, List.set_cons_succ])
 go_cut [14] (fun v14 wc => ∃ (kq : Nat) (x14_2 : Bool), v14 = .bool x14_2 ∧ Aside0 (spec_NameAsk.j0 kq l0 a1 x14_2 = some (r1, r2, r3, r4, r5, r6)) ∧ Aside0 (kq ≤ k) ∧ Aside0 (wc.heap[gb239]? = some (.cells #[.string (⟨#[]⟩ : ByteArray), .int .i64 0, .int .i64 0, .string (⟨#[]⟩ : ByteArray), .int .i64 0] 26 (0, 0))) ∧ Aside0 (Below w.heap.size w wc))
 case first =>
  have H := HC3.out
  clear HC3
  replace H := Option.bind_eq_some_iff.mp H
  obtain ⟨t240, A50, H⟩ := H
  have A5 := Aside0.mk A50
  clear A50
  by_cases c6 : t240 = true
  ·subst c6
   rw [if_pos rfl] at H
   replace H := Option.bind_eq_some_iff.mp H
   obtain ⟨t241, A70, H⟩ := H
   have A7 := Aside0.mk A70
   clear A70
   have H' := Aside0.mk H
   clear H
   go_wp2_with (first | ((with_reducible refine gate_callee (f := 25) rfl ?_); refine goesL_ (some 8) rfl rfl Try.func25 (z_0) rfl #[.slice A0 l0.length c0] rfl (z_14) ?_; (with_reducible refine (spec_NamesOk.calls k _ _ l0 true _ ?side1 ?side2 A5.out).mono ?_); (case side1 => exact z_56); (case side2 => exact HC0.out); rintro e w8 ⟨rfl, hb⟩; refine ⟨_, rfl, ?_⟩; have n0_ := Aside0.mk (blk_below (g := gb239) (o := .cells #[.string (⟨#[]⟩ : ByteArray), .int .i64 0, .int .i64 0, .string (⟨#[]⟩ : ByteArray), .int .i64 0] 26 (0, 0)) (z_57) hb); have n1_ := Aside0.mk (below_step (z_58) hb); clear BK239; clear HB; have BK239 := n0_; have HB := n1_; clear n0_ n1_; (try clear hb); (try clear hb2); (try clear hk); (try clear hi)) | (go_at_call 54; (with_reducible refine (spec_l19Word.calls k a1 t241 _ A7.out).mono ?_); rintro e w' ⟨rfl, ⟨nd, rfl⟩⟩))
   go_meet
   case rel => exact ⟨_, (!t241), (z_3), H', ⟨z_23⟩, ⟨z_57⟩, ⟨z_58⟩⟩
  ·replace c6 := Bool.eq_false_iff.mpr c6
   subst c6
   rw [if_neg (show ¬ (false = true) by decide)] at H
   have H' := Aside0.mk H
   clear H
   go_wp2_with (first | ((with_reducible refine gate_callee (f := 25) rfl ?_); refine goesL_ (some 8) rfl rfl Try.func25 (z_0) rfl #[.slice A0 l0.length c0] rfl (z_14) ?_; (with_reducible refine (spec_NamesOk.calls k _ _ l0 false _ ?side1 ?side2 A5.out).mono ?_); (case side1 => exact z_56); (case side2 => exact HC0.out); rintro e w9 ⟨rfl, hb⟩; refine ⟨_, rfl, ?_⟩; have n0_ := Aside0.mk (blk_below (g := gb239) (o := .cells #[.string (⟨#[]⟩ : ByteArray), .int .i64 0, .int .i64 0, .string (⟨#[]⟩ : ByteArray), .int .i64 0] 26 (0, 0)) (z_57) hb); have n1_ := Aside0.mk (below_step (z_58) hb); clear BK239; clear HB; have BK239 := n0_; have HB := n1_; clear n0_ n1_; (try clear hb); (try clear hb2); (try clear hk); (try clear hi)))
   go_meet
   case rel => exact ⟨_, (true), (z_3), H', ⟨z_23⟩, ⟨z_57⟩, ⟨z_58⟩⟩
 case rest =>
  clear HC3
  try clear c2
  try clear p2
  try clear c3
  try clear c6
  obtain ⟨kq, x14_2, rfl, HA, HJ2, BK239, HB⟩ := hcut
  cases kq with
  | zero => exact absurd HA.out (by simp [spec_NameAsk.j0])
  | succ kj2 =>
   have H := HA.out
   clear HA
   simp only [spec_NameAsk.j0] at H
   by_cases c10 : x14_2 = true
   ·subst c10
    rw [if_pos rfl] at H
    simp only [Option.some.injEq, Prod.mk.injEq] at H
    obtain ⟨rfl, rfl, rfl, rfl, rfl, rfl⟩ := H
    have hcz11_0 : wc.cell? ⟨gb239, 0, none⟩ = some (.string (⟨#[]⟩ : ByteArray)) := (blk_cell BK239.out 0).trans rfl
    have hcz11_1 : wc.cell? ⟨gb239, 1, none⟩ = some (.int .i64 0) := (blk_cell BK239.out 1).trans rfl
    have hcz11_2 : wc.cell? ⟨gb239, 2, none⟩ = some (.int .i64 0) := (blk_cell BK239.out 2).trans rfl
    have hcz11_3 : wc.cell? ⟨gb239, 3, none⟩ = some (.string (⟨#[]⟩ : ByteArray)) := (blk_cell BK239.out 3).trans rfl
    have hcz11_4 : wc.cell? ⟨gb239, 4, none⟩ = some (.int .i64 0) := (blk_cell BK239.out 4).trans rfl
    have hfz11_0 := blk_frozen BK239.out 0
    have hfz11_1 := blk_frozen BK239.out 1
    have hfz11_2 := blk_frozen BK239.out 2
    have hfz11_3 := blk_frozen BK239.out 3
    have hfz11_4 := blk_frozen BK239.out 4
    go_wp2
    refine bodyPost_ret (results_ct rfl _ _ gb239 26 #[.string (⟨#[]⟩ : ByteArray), .int .i64 0, .int .i64 0, .string (⟨#[]⟩ : ByteArray), .int .i64 0] (0, 0) _ rfl (by (with_reducible repeat (first | refine blk_drewN ?_ _ | refine blk_drew ?_ | refine blk_alloc ?_ _)); refine blk_put (cs := #[.string (⟨#[]⟩ : ByteArray), .int .i64 0, .int .i64 0, .string (⟨#[]⟩ : ByteArray), .int .i64 0]) ?_ 4 _ rfl; (with_reducible repeat (first | refine blk_drewN ?_ _ | refine blk_drew ?_ | refine blk_alloc ?_ _)); refine blk_put (cs := #[.string (⟨#[]⟩ : ByteArray), .int .i64 0, .int .i64 0, .string (⟨#[]⟩ : ByteArray), .int .i64 0]) ?_ 3 _ rfl; (with_reducible repeat (first | refine blk_drewN ?_ _ | refine blk_drew ?_ | refine blk_alloc ?_ _)); refine blk_put (cs := #[.string (⟨#[]⟩ : ByteArray), .int .i64 0, .int .i64 0, .string (⟨#[]⟩ : ByteArray), .int .i64 0]) ?_ 2 _ rfl; (with_reducible repeat (first | refine blk_drewN ?_ _ | refine blk_drew ?_ | refine blk_alloc ?_ _)); refine blk_put (cs := #[.string (⟨#[]⟩ : ByteArray), .int .i64 0, .int .i64 0, .string (⟨#[]⟩ : ByteArray), .int .i64 0]) ?_ 1 _ rfl; (with_reducible repeat (first | refine blk_drewN ?_ _ | refine blk_drew ?_ | refine blk_alloc ?_ _)); refine blk_put (cs := #[.string (⟨#[]⟩ : ByteArray), .int .i64 0, .int .i64 0, .string (⟨#[]⟩ : ByteArray), .int .i64 0]) ?_ 0 _ rfl; (with_reducible repeat (first | refine blk_drewN ?_ _ | refine blk_drew ?_ | refine blk_alloc ?_ _)); exact BK239.out) Try.underlying26 rfl (z_0)) rfl ?_
    exact ⟨z_13, z_58⟩
   ·replace c10 := Bool.eq_false_iff.mpr c10
    subst c10
    rw [if_neg (show ¬ (false = true) by decide)] at H
    have H' := Aside0.mk H
    clear H
    go_wp2
    go_loopg [6] kj2 (fun kq v6 w' => ∃ (x6_2 : Int) (x240000_2 : ByteArray) (x240001_2 : Int) (x240002_2 : Int) (x240003_2 : ByteArray) (x240004_2 : Int), v6 = .int .i64 x6_2 ∧ Aside0 (spec_NameAsk.l0 kq l0 a1 x6_2 = some (r1, r2, r3, r4, r5, r6)) ∧ Aside0 (kq ≤ kj2) ∧ Aside0 (w'.heap[gb239]? = some (.cells #[.string x240000_2, .int .i64 x240001_2, .int .i64 x240002_2, .string x240003_2, .int .i64 x240004_2] 26 (0, 0))) ∧ Aside0 (Below w.heap.size w w'))
    case atStart => exact ⟨(0), ((⟨#[]⟩ : ByteArray)), (0), (0), ((⟨#[]⟩ : ByteArray)), (0), (z_3), H', ⟨Nat.le_refl _⟩, ⟨z_57⟩, ⟨z_58⟩⟩
    case round =>
     clear H'
     try clear c1
     try clear c2
     try clear p2
     try clear c3
     try clear c6
     try clear c10
     try clear hcz11_0
     try clear hcz11_1
     try clear hcz11_2
     try clear hcz11_3
     try clear hcz11_4
     try clear hfz11_0
     try clear hfz11_1
     try clear hfz11_2
     try clear hfz11_3
     try clear hfz11_4
     try clear p2
     obtain ⟨x6_2, x240000_2, x240001_2, x240002_2, x240003_2, x240004_2, rfl, HA, HK2, BK239, HB⟩ := hrel
     cases gk with
     | zero => exact absurd HA.out (by simp [spec_NameAsk.l0])
     | succ k2 =>
      have H := HA.out
      clear HA
      simp only [spec_NameAsk.l0] at H
      by_cases c12 : x6_2 < (l0.length : Int)
      ·rw [if_pos c12] at H
       have c12b0 : decide (x6_2 < (l0.length : Int)) = true := decide_eq_true c12
       clear c12
       by_cases c13 : 0 ≤ x6_2
       ·rw [if_pos c13] at H
        have c13b0 : decide (0 ≤ x6_2) = true := decide_eq_true c13
        clear c13
        by_cases c14 : ((rd_T26 l0 x6_2).f0).toList = a1.toList
        ·rw [if_pos c14] at H
         have c14b0 : (((rd_T26 l0 x6_2).f0).toList == a1.toList) = true := beq_iff_eq.mpr c14
         have c14b1 : (((rd_T26 l0 x6_2).f0).toList != a1.toList) = false := bne_eq_false_iff_eq.mpr c14
         clear c14
         simp only [Option.some.injEq, Prod.mk.injEq] at H
         obtain ⟨rfl, rfl, rfl, rfl, rfl, rfl⟩ := H
         have p242 : 0 ≤ (x6_2 : Int) := of_decide_eq_true (z_7)
         have q242 : x6_2 < (l0.length : Int) := of_decide_eq_true (z_7)
         obtain ⟨ad242, e242, hx242_0, hx242_1, hx242_2, hx242_3, hx242_4⟩ := at_T26 HR0.out x6_2 p242 q242
         cases e242
         replace hx242_0 := pw_cell_below HB.out hx242_0
         replace hx242_1 := pw_cell_below HB.out hx242_1
         replace hx242_2 := pw_cell_below HB.out hx242_2
         replace hx242_3 := pw_cell_below HB.out hx242_3
         replace hx242_4 := pw_cell_below HB.out hx242_4
         replace p242 := eq_true p242
         replace q242 := eq_true q242
         have p243 : 0 ≤ (x6_2 : Int) := of_decide_eq_true (z_7)
         have q243 : x6_2 < (l0.length : Int) := of_decide_eq_true (z_7)
         obtain ⟨ad243, e243, hx243_0, hx243_1, hx243_2, hx243_3, hx243_4⟩ := at_T26 HR0.out x6_2 p243 q243
         obtain rfl : ad242 = ad243 := (by injection e243)
         replace hx243_0 := pw_cell_below HB.out hx243_0
         replace hx243_1 := pw_cell_below HB.out hx243_1
         replace hx243_2 := pw_cell_below HB.out hx243_2
         replace hx243_3 := pw_cell_below HB.out hx243_3
         replace hx243_4 := pw_cell_below HB.out hx243_4
         replace p243 := eq_true p243
         replace q243 := eq_true q243
         have hcz15_0 : wr.cell? ⟨gb239, 0, none⟩ = some (.string x240000_2) := (blk_cell BK239.out 0).trans rfl
         have hcz15_1 : wr.cell? ⟨gb239, 1, none⟩ = some (.int .i64 x240001_2) := (blk_cell BK239.out 1).trans rfl
         have hcz15_2 : wr.cell? ⟨gb239, 2, none⟩ = some (.int .i64 x240002_2) := (blk_cell BK239.out 2).trans rfl
         have hcz15_3 : wr.cell? ⟨gb239, 3, none⟩ = some (.string x240003_2) := (blk_cell BK239.out 3).trans rfl
         have hcz15_4 : wr.cell? ⟨gb239, 4, none⟩ = some (.int .i64 x240004_2) := (blk_cell BK239.out 4).trans rfl
         have hfz15_0 := blk_frozen BK239.out 0
         have hfz15_1 := blk_frozen BK239.out 1
         have hfz15_2 := blk_frozen BK239.out 2
         have hfz15_3 := blk_frozen BK239.out 3
         have hfz15_4 := blk_frozen BK239.out 4
         go_wp2
         refine bodyPost_ret (results_ct rfl _ _ gb239 26 #[.string ((rd_T26 l0 x6_2).f0), .int .i64 ((rd_T26 l0 x6_2).f1), .int .i64 ((rd_T26 l0 x6_2).f2), .string ((rd_T26 l0 x6_2).f3), .int .i64 ((rd_T26 l0 x6_2).f4)] (0, 0) _ rfl (by (with_reducible repeat (first | refine blk_drewN ?_ _ | refine blk_drew ?_ | refine blk_alloc ?_ _)); refine blk_put (cs := #[.string ((rd_T26 l0 x6_2).f0), .int .i64 ((rd_T26 l0 x6_2).f1), .int .i64 ((rd_T26 l0 x6_2).f2), .string ((rd_T26 l0 x6_2).f3), .int .i64 x240004_2]) ?_ 4 _ rfl; (with_reducible repeat (first | refine blk_drewN ?_ _ | refine blk_drew ?_ | refine blk_alloc ?_ _)); refine blk_put (cs := #[.string ((rd_T26 l0 x6_2).f0), .int .i64 ((rd_T26 l0 x6_2).f1), .int .i64 ((rd_T26 l0 x6_2).f2), .string x240003_2, .int .i64 x240004_2]) ?_ 3 _ rfl; (with_reducible repeat (first | refine blk_drewN ?_ _ | refine blk_drew ?_ | refine blk_alloc ?_ _)); refine blk_put (cs := #[.string ((rd_T26 l0 x6_2).f0), .int .i64 ((rd_T26 l0 x6_2).f1), .int .i64 x240002_2, .string x240003_2, .int .i64 x240004_2]) ?_ 2 _ rfl; (with_reducible repeat (first | refine blk_drewN ?_ _ | refine blk_drew ?_ | refine blk_alloc ?_ _)); refine blk_put (cs := #[.string ((rd_T26 l0 x6_2).f0), .int .i64 x240001_2, .int .i64 x240002_2, .string x240003_2, .int .i64 x240004_2]) ?_ 1 _ rfl; (with_reducible repeat (first | refine blk_drewN ?_ _ | refine blk_drew ?_ | refine blk_alloc ?_ _)); refine blk_put (cs := #[.string x240000_2, .int .i64 x240001_2, .int .i64 x240002_2, .string x240003_2, .int .i64 x240004_2]) ?_ 0 _ rfl; (with_reducible repeat (first | refine blk_drewN ?_ _ | refine blk_drew ?_ | refine blk_alloc ?_ _)); exact BK239.out) Try.underlying26 rfl (z_0)) rfl ?_
         exact ⟨z_13, z_58⟩
        ·rw [if_neg c14] at H
         have c14b0 : (((rd_T26 l0 x6_2).f0).toList == a1.toList) = false := beq_eq_false_iff_ne.mpr c14
         have c14b1 : (((rd_T26 l0 x6_2).f0).toList != a1.toList) = true := bne_iff_ne.mpr c14
         have H' := Aside0.mk H
         clear H
         have p242 : 0 ≤ (x6_2 : Int) := of_decide_eq_true (z_7)
         have q242 : x6_2 < (l0.length : Int) := of_decide_eq_true (z_7)
         obtain ⟨ad242, e242, hx242_0, hx242_1, hx242_2, hx242_3, hx242_4⟩ := at_T26 HR0.out x6_2 p242 q242
         cases e242
         replace hx242_0 := pw_cell_below HB.out hx242_0
         replace hx242_1 := pw_cell_below HB.out hx242_1
         replace hx242_2 := pw_cell_below HB.out hx242_2
         replace hx242_3 := pw_cell_below HB.out hx242_3
         replace hx242_4 := pw_cell_below HB.out hx242_4
         replace p242 := eq_true p242
         replace q242 := eq_true q242
         go_wp2
         go_roundg k2
         case measure => have := HJ2.out; have := HK2.out; omega
         case rel => exact ⟨(wrap64 (x6_2 + 1)), (x240000_2), (x240001_2), (x240002_2), (x240003_2), (x240004_2), (z_3), H', ⟨by have := HJ2.out; have := HK2.out; omega⟩, ⟨z_57⟩, ⟨z_58⟩⟩
       ·rw [if_neg c13] at H
        exact absurd H (z_12)
      ·rw [if_neg c12] at H
       have c12b0 : decide (x6_2 < (l0.length : Int)) = false := decide_eq_false c12
       clear c12
       simp only [Option.some.injEq, Prod.mk.injEq] at H
       obtain ⟨rfl, rfl, rfl, rfl, rfl, rfl⟩ := H
       have hcz16_0 : wr.cell? ⟨gb239, 0, none⟩ = some (.string x240000_2) := (blk_cell BK239.out 0).trans rfl
       have hcz16_1 : wr.cell? ⟨gb239, 1, none⟩ = some (.int .i64 x240001_2) := (blk_cell BK239.out 1).trans rfl
       have hcz16_2 : wr.cell? ⟨gb239, 2, none⟩ = some (.int .i64 x240002_2) := (blk_cell BK239.out 2).trans rfl
       have hcz16_3 : wr.cell? ⟨gb239, 3, none⟩ = some (.string x240003_2) := (blk_cell BK239.out 3).trans rfl
       have hcz16_4 : wr.cell? ⟨gb239, 4, none⟩ = some (.int .i64 x240004_2) := (blk_cell BK239.out 4).trans rfl
       have hfz16_0 := blk_frozen BK239.out 0
       have hfz16_1 := blk_frozen BK239.out 1
       have hfz16_2 := blk_frozen BK239.out 2
       have hfz16_3 := blk_frozen BK239.out 3
       have hfz16_4 := blk_frozen BK239.out 4
       go_wp2
       refine bodyPost_ret (results_ct rfl _ _ gb239 26 #[.string a1, .int .i64 0, .int .i64 0, .string (⟨#[]⟩ : ByteArray), .int .i64 5] (0, 0) _ rfl (by (with_reducible repeat (first | refine blk_drewN ?_ _ | refine blk_drew ?_ | refine blk_alloc ?_ _)); refine blk_put (cs := #[.string a1, .int .i64 0, .int .i64 0, .string (⟨#[]⟩ : ByteArray), .int .i64 x240004_2]) ?_ 4 _ rfl; (with_reducible repeat (first | refine blk_drewN ?_ _ | refine blk_drew ?_ | refine blk_alloc ?_ _)); refine blk_put (cs := #[.string a1, .int .i64 0, .int .i64 0, .string x240003_2, .int .i64 x240004_2]) ?_ 3 _ rfl; (with_reducible repeat (first | refine blk_drewN ?_ _ | refine blk_drew ?_ | refine blk_alloc ?_ _)); refine blk_put (cs := #[.string a1, .int .i64 0, .int .i64 x240002_2, .string x240003_2, .int .i64 x240004_2]) ?_ 2 _ rfl; (with_reducible repeat (first | refine blk_drewN ?_ _ | refine blk_drew ?_ | refine blk_alloc ?_ _)); refine blk_put (cs := #[.string a1, .int .i64 x240001_2, .int .i64 x240002_2, .string x240003_2, .int .i64 x240004_2]) ?_ 1 _ rfl; (with_reducible repeat (first | refine blk_drewN ?_ _ | refine blk_drew ?_ | refine blk_alloc ?_ _)); refine blk_put (cs := #[.string x240000_2, .int .i64 x240001_2, .int .i64 x240002_2, .string x240003_2, .int .i64 x240004_2]) ?_ 0 _ rfl; (with_reducible repeat (first | refine blk_drewN ?_ _ | refine blk_drew ?_ | refine blk_alloc ?_ _)); exact BK239.out) Try.underlying26 rfl (z_0)) rfl ?_
       exact ⟨z_13, z_58⟩

/-! ### spec_KeptOk: function 34 -/
mutual
def spec_KeptOk.l0 : Nat → List (S83) → Int → Option (Bool)
 | 0, _, _ => none
 | k + 1, x0, x3 => if x3 < (x0.length : Int) then (if 0 ≤ x3 then ((spec_NameOk.f k ((rd_T83 x0 x3).f0.f0) ((rd_T83 x0 x3).f0.f1) ((rd_T83 x0 x3).f0.f2) ((rd_T83 x0 x3).f0.f3) ((rd_T83 x0 x3).f0.f4)).bind fun t245 => (if t245 = true then ((spec_l1In.f ((rd_T83 x0 x3).f1) 0 1000000).bind fun t247 => (spec_KeptOk.j1 k x0 x3 (!t247))) else (spec_KeptOk.j1 k x0 x3 true))) else (none)) else (some (decide ((x0.length : Int) ≤ 5)))
def spec_KeptOk.j1 : Nat → List (S83) → Int → Bool → Option (Bool)
 | 0, _, _, _ => none
 | k + 1, x0, x3, x26 => if x26 = true then (some false) else (spec_KeptOk.l1 k x0 x3 0)
def spec_KeptOk.l1 : Nat → List (S83) → Int → Int → Option (Bool)
 | 0, _, _, _ => none
 | k + 1, x0, x3, x4 => if x4 < x3 then (if 0 ≤ x4 then (if x4 < (x0.length : Int) then (if 0 ≤ x3 then (if x3 < (x0.length : Int) then (if ((rd_T83 x0 x4).f0.f0).toList = ((rd_T83 x0 x3).f0.f0).toList then (some false) else (spec_KeptOk.l1 k x0 x3 (wrap64 (x4 + 1)))) else (none)) else (none)) else (none)) else (none)) else (spec_KeptOk.l0 k x0 (wrap64 (x3 + 1)))
end
def spec_KeptOk.f (k : Nat) (l0 : List (S83)) : Option (Bool) := spec_KeptOk.l0 k l0 0
theorem spec_KeptOk.mono_l : ∀ k, (∀ y0 y1, LeO (spec_KeptOk.l0 k y0 y1) (spec_KeptOk.l0 (k + 1) y0 y1)) ∧ (∀ y0 y1 y2, LeO (spec_KeptOk.j1 k y0 y1 y2) (spec_KeptOk.j1 (k + 1) y0 y1 y2)) ∧ (∀ y0 y1 y2, LeO (spec_KeptOk.l1 k y0 y1 y2) (spec_KeptOk.l1 (k + 1) y0 y1 y2))
 | 0 => ⟨fun _ _ r h => by simp [spec_KeptOk.l0] at h, fun _ _ _ r h => by simp [spec_KeptOk.j1] at h, fun _ _ _ r h => by simp [spec_KeptOk.l1] at h⟩
 | k + 1 => by
  obtain ⟨ih0, ih1, ih2⟩ := spec_KeptOk.mono_l k
  refine ⟨?_, ?_, ?_⟩
  ·intro y0 y1
   unfold spec_KeptOk.l0
   repeat' first
   | (with_reducible exact ih0 _ _)
   | (with_reducible exact ih1 _ _ _)
   | (with_reducible exact ih2 _ _ _)
   | (with_reducible exact spec_NameOk.mono _ _ _ _ _ _)
   | (with_reducible exact LeO.refl _)
   | (with_reducible exact LeO.none _)
   | (with_reducible refine LeO.ite ?_ ?_)
   | (with_reducible refine LeO.bind ?_ (fun _ => ?_))
   | exact ih0 _ _
   | exact ih1 _ _ _
   | exact ih2 _ _ _
   | exact spec_NameOk.mono _ _ _ _ _ _
   | exact LeO.none _
   | refine LeO.ite ?_ ?_
   | refine LeO.bind ?_ (fun _ => ?_)
  ·intro y0 y1 y2
   unfold spec_KeptOk.j1
   repeat' first
   | (with_reducible exact ih0 _ _)
   | (with_reducible exact ih1 _ _ _)
   | (with_reducible exact ih2 _ _ _)
   | (with_reducible exact spec_NameOk.mono _ _ _ _ _ _)
   | (with_reducible exact LeO.refl _)
   | (with_reducible exact LeO.none _)
   | (with_reducible refine LeO.ite ?_ ?_)
   | (with_reducible refine LeO.bind ?_ (fun _ => ?_))
   | exact ih0 _ _
   | exact ih1 _ _ _
   | exact ih2 _ _ _
   | exact spec_NameOk.mono _ _ _ _ _ _
   | exact LeO.none _
   | refine LeO.ite ?_ ?_
   | refine LeO.bind ?_ (fun _ => ?_)
  ·intro y0 y1 y2
   unfold spec_KeptOk.l1
   repeat' first
   | (with_reducible exact ih0 _ _)
   | (with_reducible exact ih1 _ _ _)
   | (with_reducible exact ih2 _ _ _)
   | (with_reducible exact spec_NameOk.mono _ _ _ _ _ _)
   | (with_reducible exact LeO.refl _)
   | (with_reducible exact LeO.none _)
   | (with_reducible refine LeO.ite ?_ ?_)
   | (with_reducible refine LeO.bind ?_ (fun _ => ?_))
   | exact ih0 _ _
   | exact ih1 _ _ _
   | exact ih2 _ _ _
   | exact spec_NameOk.mono _ _ _ _ _ _
   | exact LeO.none _
   | refine LeO.ite ?_ ?_
   | refine LeO.bind ?_ (fun _ => ?_)
theorem spec_KeptOk.mono : ∀ a0 k, LeO (spec_KeptOk.f k a0) (spec_KeptOk.f (k + 1) a0) := by
 intro a0 k
 obtain ⟨ih0, ih1, ih2⟩ := spec_KeptOk.mono_l k
 unfold spec_KeptOk.f
 repeat' first
   | (with_reducible exact ih0 _ _)
   | (with_reducible exact ih1 _ _ _)
   | (with_reducible exact ih2 _ _ _)
   | (with_reducible exact spec_NameOk.mono _ _ _ _ _ _)
   | (with_reducible exact LeO.refl _)
   | (with_reducible exact LeO.none _)
   | (with_reducible refine LeO.ite ?_ ?_)
   | (with_reducible refine LeO.bind ?_ (fun _ => ?_))
   | exact ih0 _ _
   | exact ih1 _ _ _
   | exact ih2 _ _ _
   | exact spec_NameOk.mono _ _ _ _ _ _
   | exact LeO.none _
   | refine LeO.ite ?_ ?_
   | refine LeO.bind ?_ (fun _ => ?_)
set_option maxHeartbeats 8000000 in
set_option maxRecDepth 100000 in
theorem spec_KeptOk.calls (k : Nat) (A0 : Option Addr) (c0 : Nat) (l0 : List (S83)) (r : Bool) (w : World) (hr0 : Kd.C k83 w A0 l0.length l0) (hc0 : l0.length ≤ c0) (h : spec_KeptOk.f k l0 = some r) :
  Calls Try.prog 34 #[.slice A0 l0.length c0] w fun e w' => e = .returned (.bool r) ∧ Below w.heap.size w w' := by
 have hu26 := Try.underlying26
 have HR0 := Aside0.mk hr0
 have HC0 := Aside0.mk hc0
 clear hr0 hc0
 have HB := Aside0.mk (Below.refl w.heap.size w)
 have H : (spec_KeptOk.l0 k l0 0) = some r := h
 clear h
 have H' := Aside0.mk H
 clear H
 go_enter Try.func34, Try.ntmps34
 go_wp2
 repeat (go_quiet (fail); try go_wp2)
 go_loopg [3] k (fun kq v3 w' => ∃ (x3_1 : Int), v3 = .int .i64 x3_1 ∧ Aside0 (spec_KeptOk.l0 kq l0 x3_1 = some r) ∧ Aside0 (kq ≤ k) ∧ Aside0 (Below w.heap.size w w'))
 case atStart => exact ⟨(0), (z_3), H', ⟨Nat.le_refl _⟩, ⟨z_8⟩⟩
 case round =>
  clear H'
  obtain ⟨x3_1, rfl, HA, HK1, HB⟩ := hrel
  cases gk with
  | zero => exact absurd HA.out (by simp [spec_KeptOk.l0])
  | succ k1 =>
   have H := HA.out
   clear HA
   simp only [spec_KeptOk.l0] at H
   by_cases c2 : x3_1 < (l0.length : Int)
   ·rw [if_pos c2] at H
    have c2b0 : decide (x3_1 < (l0.length : Int)) = true := decide_eq_true c2
    clear c2
    have HC3 := Aside0.mk H
    clear H
    go_upto_region 4 with (fail)
    repeat (go_quiet (fail); go_upto_region 4 with (fail))
    go_cut [26] (fun v26 wc => ∃ (kq : Nat) (x26_2 : Bool), v26 = .bool x26_2 ∧ Aside0 (spec_KeptOk.j1 kq l0 x3_1 x26_2 = some r) ∧ Aside0 (kq ≤ k1) ∧ Aside0 (Below w.heap.size w wc))
    case first =>
     have H := HC3.out
     clear HC3
     by_cases c4 : 0 ≤ x3_1
     ·rw [if_pos c4] at H
      have c4b0 : decide (0 ≤ x3_1) = true := decide_eq_true c4
      clear c4
      (first | rw [c4b0] | (simp only [i64_w, i32_w]; rw [c4b0]) | skip)
      replace H := Option.bind_eq_some_iff.mp H
      obtain ⟨t245, A50, H⟩ := H
      have A5 := Aside0.mk A50
      clear A50
      by_cases c6 : t245 = true
      ·subst c6
       rw [if_pos rfl] at H
       replace H := Option.bind_eq_some_iff.mp H
       obtain ⟨t247, A70, H⟩ := H
       have A7 := Aside0.mk A70
       clear A70
       have H' := Aside0.mk H
       clear H
       have p244 : 0 ≤ (x3_1 : Int) := of_decide_eq_true (z_7)
       have q244 : x3_1 < (l0.length : Int) := of_decide_eq_true (z_7)
       obtain ⟨ad244, e244, hx244_0, hx244_1, hx244_2, hx244_3, hx244_4, hx244_5⟩ := at_T83 HR0.out x3_1 p244 q244
       cases e244
       replace hx244_0 := pw_cell_below HB.out hx244_0
       replace hx244_1 := pw_cell_below HB.out hx244_1
       replace hx244_2 := pw_cell_below HB.out hx244_2
       replace hx244_3 := pw_cell_below HB.out hx244_3
       replace hx244_4 := pw_cell_below HB.out hx244_4
       replace hx244_5 := pw_cell_below HB.out hx244_5
       replace p244 := eq_true p244
       replace q244 := eq_true q244
       go_wp2_with (first | (go_at_call 19; (with_reducible refine (spec_NameOk.calls k1 ((rd_T83 l0 x3_1).f0.f0) ((rd_T83 l0 x3_1).f0.f1) ((rd_T83 l0 x3_1).f0.f2) ((rd_T83 l0 x3_1).f0.f3) ((rd_T83 l0 x3_1).f0.f4) true _ A5.out).mono ?_); rintro e w8 ⟨rfl, hb⟩; have n0_ := Aside0.mk (below_step (z_8) hb); clear HB; have HB := n0_; clear n0_; (try clear hb); (try clear hb2); (try clear hk); (try clear hi); have p246 : 0 ≤ (x3_1 : Int) := of_decide_eq_true (z_7); have q246 : x3_1 < (l0.length : Int) := of_decide_eq_true (z_7); obtain ⟨ad246, e246, hx246_0, hx246_1, hx246_2, hx246_3, hx246_4, hx246_5⟩ := at_T83 HR0.out x3_1 p246 q246; obtain rfl : ad244 = ad246 := (by injection e246); replace hx246_0 := pw_cell_below HB.out hx246_0; replace hx246_1 := pw_cell_below HB.out hx246_1; replace hx246_2 := pw_cell_below HB.out hx246_2; replace hx246_3 := pw_cell_below HB.out hx246_3; replace hx246_4 := pw_cell_below HB.out hx246_4; replace hx246_5 := pw_cell_below HB.out hx246_5; replace p246 := eq_true p246; replace q246 := eq_true q246) | (go_at_call 55; (with_reducible refine (spec_l1In.calls ((rd_T83 l0 x3_1).f1) 0 1000000 t247 _ A7.out).mono ?_); rintro e w' ⟨rfl, ⟨nd, rfl⟩⟩; (try first | exact ⟨rfl, _, World.drewN_drewN _ _ _⟩ | exact ⟨rfl, _, Eq.trans (World.drewN_drewN _ _ _) (congrArg (World.drewN _) (Nat.add_assoc _ _ _))⟩)))
       repeat (go_quiet (first | (go_at_call 19; (with_reducible refine (spec_NameOk.calls k1 ((rd_T83 l0 x3_1).f0.f0) ((rd_T83 l0 x3_1).f0.f1) ((rd_T83 l0 x3_1).f0.f2) ((rd_T83 l0 x3_1).f0.f3) ((rd_T83 l0 x3_1).f0.f4) true _ A5.out).mono ?_); rintro e w8 ⟨rfl, hb⟩; have n0_ := Aside0.mk (below_step (z_8) hb); clear HB; have HB := n0_; clear n0_; (try clear hb); (try clear hb2); (try clear hk); (try clear hi); have p246 : 0 ≤ (x3_1 : Int) := of_decide_eq_true (z_7); have q246 : x3_1 < (l0.length : Int) := of_decide_eq_true (z_7); obtain ⟨ad246, e246, hx246_0, hx246_1, hx246_2, hx246_3, hx246_4, hx246_5⟩ := at_T83 HR0.out x3_1 p246 q246; obtain rfl : ad244 = ad246 := (by injection e246); replace hx246_0 := pw_cell_below HB.out hx246_0; replace hx246_1 := pw_cell_below HB.out hx246_1; replace hx246_2 := pw_cell_below HB.out hx246_2; replace hx246_3 := pw_cell_below HB.out hx246_3; replace hx246_4 := pw_cell_below HB.out hx246_4; replace hx246_5 := pw_cell_below HB.out hx246_5; replace p246 := eq_true p246; replace q246 := eq_true q246) | (go_at_call 55; (with_reducible refine (spec_l1In.calls ((rd_T83 l0 x3_1).f1) 0 1000000 t247 _ A7.out).mono ?_); rintro e w' ⟨rfl, ⟨nd, rfl⟩⟩; (try first | exact ⟨rfl, _, World.drewN_drewN _ _ _⟩ | exact ⟨rfl, _, Eq.trans (World.drewN_drewN _ _ _) (congrArg (World.drewN _) (Nat.add_assoc _ _ _))⟩))); try go_wp2_with (first | (go_at_call 19; (with_reducible refine (spec_NameOk.calls k1 ((rd_T83 l0 x3_1).f0.f0) ((rd_T83 l0 x3_1).f0.f1) ((rd_T83 l0 x3_1).f0.f2) ((rd_T83 l0 x3_1).f0.f3) ((rd_T83 l0 x3_1).f0.f4) true _ A5.out).mono ?_); rintro e w8 ⟨rfl, hb⟩; have n0_ := Aside0.mk (below_step (z_8) hb); clear HB; have HB := n0_; clear n0_; (try clear hb); (try clear hb2); (try clear hk); (try clear hi); have p246 : 0 ≤ (x3_1 : Int) := of_decide_eq_true (z_7); have q246 : x3_1 < (l0.length : Int) := of_decide_eq_true (z_7); obtain ⟨ad246, e246, hx246_0, hx246_1, hx246_2, hx246_3, hx246_4, hx246_5⟩ := at_T83 HR0.out x3_1 p246 q246; obtain rfl : ad244 = ad246 := (by injection e246); replace hx246_0 := pw_cell_below HB.out hx246_0; replace hx246_1 := pw_cell_below HB.out hx246_1; replace hx246_2 := pw_cell_below HB.out hx246_2; replace hx246_3 := pw_cell_below HB.out hx246_3; replace hx246_4 := pw_cell_below HB.out hx246_4; replace hx246_5 := pw_cell_below HB.out hx246_5; replace p246 := eq_true p246; replace q246 := eq_true q246) | (go_at_call 55; (with_reducible refine (spec_l1In.calls ((rd_T83 l0 x3_1).f1) 0 1000000 t247 _ A7.out).mono ?_); rintro e w' ⟨rfl, ⟨nd, rfl⟩⟩; (try first | exact ⟨rfl, _, World.drewN_drewN _ _ _⟩ | exact ⟨rfl, _, Eq.trans (World.drewN_drewN _ _ _) (congrArg (World.drewN _) (Nat.add_assoc _ _ _))⟩))))
       go_meet
       case rel => exact ⟨_, (!t247), (z_3), H', ⟨z_59⟩, ⟨z_8⟩⟩
      ·replace c6 := Bool.eq_false_iff.mpr c6
       subst c6
       rw [if_neg (show ¬ (false = true) by decide)] at H
       have H' := Aside0.mk H
       clear H
       have p244 : 0 ≤ (x3_1 : Int) := of_decide_eq_true (z_7)
       have q244 : x3_1 < (l0.length : Int) := of_decide_eq_true (z_7)
       obtain ⟨ad244, e244, hx244_0, hx244_1, hx244_2, hx244_3, hx244_4, hx244_5⟩ := at_T83 HR0.out x3_1 p244 q244
       cases e244
       replace hx244_0 := pw_cell_below HB.out hx244_0
       replace hx244_1 := pw_cell_below HB.out hx244_1
       replace hx244_2 := pw_cell_below HB.out hx244_2
       replace hx244_3 := pw_cell_below HB.out hx244_3
       replace hx244_4 := pw_cell_below HB.out hx244_4
       replace hx244_5 := pw_cell_below HB.out hx244_5
       replace p244 := eq_true p244
       replace q244 := eq_true q244
       go_wp2_with (first | (go_at_call 19; (with_reducible refine (spec_NameOk.calls k1 ((rd_T83 l0 x3_1).f0.f0) ((rd_T83 l0 x3_1).f0.f1) ((rd_T83 l0 x3_1).f0.f2) ((rd_T83 l0 x3_1).f0.f3) ((rd_T83 l0 x3_1).f0.f4) false _ A5.out).mono ?_); rintro e w9 ⟨rfl, hb⟩; have n0_ := Aside0.mk (below_step (z_8) hb); clear HB; have HB := n0_; clear n0_; (try clear hb); (try clear hb2); (try clear hk); (try clear hi)))
       repeat (go_quiet (first | (go_at_call 19; (with_reducible refine (spec_NameOk.calls k1 ((rd_T83 l0 x3_1).f0.f0) ((rd_T83 l0 x3_1).f0.f1) ((rd_T83 l0 x3_1).f0.f2) ((rd_T83 l0 x3_1).f0.f3) ((rd_T83 l0 x3_1).f0.f4) false _ A5.out).mono ?_); rintro e w9 ⟨rfl, hb⟩; have n0_ := Aside0.mk (below_step (z_8) hb); clear HB; have HB := n0_; clear n0_; (try clear hb); (try clear hb2); (try clear hk); (try clear hi))); try go_wp2_with (first | (go_at_call 19; (with_reducible refine (spec_NameOk.calls k1 ((rd_T83 l0 x3_1).f0.f0) ((rd_T83 l0 x3_1).f0.f1) ((rd_T83 l0 x3_1).f0.f2) ((rd_T83 l0 x3_1).f0.f3) ((rd_T83 l0 x3_1).f0.f4) false _ A5.out).mono ?_); rintro e w9 ⟨rfl, hb⟩; have n0_ := Aside0.mk (below_step (z_8) hb); clear HB; have HB := n0_; clear n0_; (try clear hb); (try clear hb2); (try clear hk); (try clear hi))))
       go_meet
       case rel => exact ⟨_, (true), (z_3), H', ⟨z_59⟩, ⟨z_8⟩⟩
     ·rw [if_neg c4] at H
      exact absurd H (z_12)
    case rest =>
     clear HC3
     try clear c2
     try clear c2b0
     try clear p2
     try clear q2
     try clear hx2
     try clear c3
     try clear c4
     try clear c4b0
     try clear c6
     try clear hx244_0
     try clear hx244_1
     try clear hx244_2
     try clear hx244_3
     try clear hx244_4
     try clear hx244_5
     try clear hx246_0
     try clear hx246_1
     try clear hx246_2
     try clear hx246_3
     try clear hx246_4
     try clear hx246_5
     try clear p244
     try clear p246
     try clear q244
     try clear q246
     obtain ⟨kq, x26_2, rfl, HA, HJ2, HB⟩ := hcut
     cases kq with
     | zero => exact absurd HA.out (by simp [spec_KeptOk.j1])
     | succ kj2 =>
      have H := HA.out
      clear HA
      simp only [spec_KeptOk.j1] at H
      by_cases c10 : x26_2 = true
      ·subst c10
       rw [if_pos rfl] at H
       obtain rfl := Option.some.inj H
       go_wp2
       repeat (go_quiet (fail); try go_wp2)
       go_ret
       exact ⟨z_13, z_8⟩
      ·replace c10 := Bool.eq_false_iff.mpr c10
       subst c10
       rw [if_neg (show ¬ (false = true) by decide)] at H
       have H' := Aside0.mk H
       clear H
       go_wp2
       repeat (go_quiet (fail); try go_wp2)
       go_loopg [4] kj2 (fun kq v4 w' => ∃ (x4_3 : Int), v4 = .int .i64 x4_3 ∧ Aside0 (spec_KeptOk.l1 kq l0 x3_1 x4_3 = some r) ∧ Aside0 (kq ≤ kj2) ∧ Aside0 (Below w.heap.size w w'))
       case atStart => exact ⟨(0), (z_3), H', ⟨Nat.le_refl _⟩, ⟨z_8⟩⟩
       case round =>
        clear H'
        try clear c1
        try clear c2
        try clear c2b0
        try clear p2
        try clear q2
        try clear hx2
        try clear c3
        try clear c4
        try clear c4b0
        try clear c6
        try clear c10
        try clear hx244_0
        try clear hx244_1
        try clear hx244_2
        try clear hx244_3
        try clear hx244_4
        try clear hx244_5
        try clear hx246_0
        try clear hx246_1
        try clear hx246_2
        try clear hx246_3
        try clear hx246_4
        try clear hx246_5
        try clear p2
        try clear p244
        try clear p246
        try clear q2
        try clear q244
        try clear q246
        obtain ⟨x4_3, rfl, HA, HK3, HB⟩ := hrel
        cases gk with
        | zero => exact absurd HA.out (by simp [spec_KeptOk.l1])
        | succ k3 =>
         have H := HA.out
         clear HA
         simp only [spec_KeptOk.l1] at H
         by_cases c11 : x4_3 < x3_1
         ·rw [if_pos c11] at H
          have c11b0 : decide (x4_3 < x3_1) = true := decide_eq_true c11
          clear c11
          by_cases c12 : 0 ≤ x4_3
          ·rw [if_pos c12] at H
           have c12b0 : decide (0 ≤ x4_3) = true := decide_eq_true c12
           clear c12
           by_cases c13 : x4_3 < (l0.length : Int)
           ·rw [if_pos c13] at H
            have c13b0 : decide (x4_3 < (l0.length : Int)) = true := decide_eq_true c13
            clear c13
            by_cases c14 : 0 ≤ x3_1
            ·rw [if_pos c14] at H
             have c14b0 : decide (0 ≤ x3_1) = true := decide_eq_true c14
             clear c14
             by_cases c15 : x3_1 < (l0.length : Int)
             ·rw [if_pos c15] at H
              have c15b0 : decide (x3_1 < (l0.length : Int)) = true := decide_eq_true c15
              clear c15
              by_cases c16 : ((rd_T83 l0 x4_3).f0.f0).toList = ((rd_T83 l0 x3_1).f0.f0).toList
              ·rw [if_pos c16] at H
               have c16b0 : (((rd_T83 l0 x4_3).f0.f0).toList == ((rd_T83 l0 x3_1).f0.f0).toList) = true := beq_iff_eq.mpr c16
               have c16b1 : (((rd_T83 l0 x4_3).f0.f0).toList != ((rd_T83 l0 x3_1).f0.f0).toList) = false := bne_eq_false_iff_eq.mpr c16
               clear c16
               obtain rfl := Option.some.inj H
               have p248 : 0 ≤ (x4_3 : Int) := of_decide_eq_true (z_7)
               have q248 : x4_3 < (l0.length : Int) := of_decide_eq_true (z_7)
               obtain ⟨ad248, e248, hx248_0, hx248_1, hx248_2, hx248_3, hx248_4, hx248_5⟩ := at_T83 HR0.out x4_3 p248 q248
               cases e248
               replace hx248_0 := pw_cell_below HB.out hx248_0
               replace hx248_1 := pw_cell_below HB.out hx248_1
               replace hx248_2 := pw_cell_below HB.out hx248_2
               replace hx248_3 := pw_cell_below HB.out hx248_3
               replace hx248_4 := pw_cell_below HB.out hx248_4
               replace hx248_5 := pw_cell_below HB.out hx248_5
               replace p248 := eq_true p248
               replace q248 := eq_true q248
               have p249 : 0 ≤ (x3_1 : Int) := of_decide_eq_true (z_7)
               have q249 : x3_1 < (l0.length : Int) := of_decide_eq_true (z_7)
               obtain ⟨ad249, e249, hx249_0, hx249_1, hx249_2, hx249_3, hx249_4, hx249_5⟩ := at_T83 HR0.out x3_1 p249 q249
               obtain rfl : ad248 = ad249 := (by injection e249)
               replace hx249_0 := pw_cell_below HB.out hx249_0
               replace hx249_1 := pw_cell_below HB.out hx249_1
               replace hx249_2 := pw_cell_below HB.out hx249_2
               replace hx249_3 := pw_cell_below HB.out hx249_3
               replace hx249_4 := pw_cell_below HB.out hx249_4
               replace hx249_5 := pw_cell_below HB.out hx249_5
               replace p249 := eq_true p249
               replace q249 := eq_true q249
               go_wp2
               repeat (go_quiet (fail); try go_wp2)
               go_ret
               exact ⟨z_13, z_8⟩
              ·rw [if_neg c16] at H
               have c16b0 : (((rd_T83 l0 x4_3).f0.f0).toList == ((rd_T83 l0 x3_1).f0.f0).toList) = false := beq_eq_false_iff_ne.mpr c16
               have c16b1 : (((rd_T83 l0 x4_3).f0.f0).toList != ((rd_T83 l0 x3_1).f0.f0).toList) = true := bne_iff_ne.mpr c16
               have H' := Aside0.mk H
               clear H
               have p248 : 0 ≤ (x4_3 : Int) := of_decide_eq_true (z_7)
               have q248 : x4_3 < (l0.length : Int) := of_decide_eq_true (z_7)
               obtain ⟨ad248, e248, hx248_0, hx248_1, hx248_2, hx248_3, hx248_4, hx248_5⟩ := at_T83 HR0.out x4_3 p248 q248
               cases e248
               replace hx248_0 := pw_cell_below HB.out hx248_0
               replace hx248_1 := pw_cell_below HB.out hx248_1
               replace hx248_2 := pw_cell_below HB.out hx248_2
               replace hx248_3 := pw_cell_below HB.out hx248_3
               replace hx248_4 := pw_cell_below HB.out hx248_4
               replace hx248_5 := pw_cell_below HB.out hx248_5
               replace p248 := eq_true p248
               replace q248 := eq_true q248
               have p249 : 0 ≤ (x3_1 : Int) := of_decide_eq_true (z_7)
               have q249 : x3_1 < (l0.length : Int) := of_decide_eq_true (z_7)
               obtain ⟨ad249, e249, hx249_0, hx249_1, hx249_2, hx249_3, hx249_4, hx249_5⟩ := at_T83 HR0.out x3_1 p249 q249
               obtain rfl : ad248 = ad249 := (by injection e249)
               replace hx249_0 := pw_cell_below HB.out hx249_0
               replace hx249_1 := pw_cell_below HB.out hx249_1
               replace hx249_2 := pw_cell_below HB.out hx249_2
               replace hx249_3 := pw_cell_below HB.out hx249_3
               replace hx249_4 := pw_cell_below HB.out hx249_4
               replace hx249_5 := pw_cell_below HB.out hx249_5
               replace p249 := eq_true p249
               replace q249 := eq_true q249
               go_wp2
               repeat (go_quiet (fail); try go_wp2)
               go_roundg k3
               case measure => have := HK1.out; have := HJ2.out; have := HK3.out; omega
               case rel => exact ⟨(wrap64 (x4_3 + 1)), (z_3), H', ⟨by have := HK1.out; have := HJ2.out; have := HK3.out; omega⟩, ⟨z_8⟩⟩
             ·rw [if_neg c15] at H
              exact absurd H (z_12)
            ·rw [if_neg c14] at H
             exact absurd H (z_12)
           ·rw [if_neg c13] at H
            exact absurd H (z_12)
          ·rw [if_neg c12] at H
           exact absurd H (z_12)
         ·rw [if_neg c11] at H
          have c11b0 : decide (x4_3 < x3_1) = false := decide_eq_false c11
          clear c11
          have H' := Aside0.mk H
          clear H
          go_wp2
          repeat (go_quiet (fail); try go_wp2)
          go_roundg k3
          case measure => have := HK1.out; have := HJ2.out; have := HK3.out; omega
          case rel => exact ⟨(wrap64 (x3_1 + 1)), (z_3), H', ⟨by have := HK1.out; have := HJ2.out; have := HK3.out; omega⟩, ⟨z_8⟩⟩
   ·rw [if_neg c2] at H
    have c2b0 : decide (x3_1 < (l0.length : Int)) = false := decide_eq_false c2
    clear c2
    obtain rfl := Option.some.inj H
    go_wp2
    repeat (go_quiet (fail); try go_wp2)
    go_ret
    exact ⟨z_13, z_8⟩

end Go.Proofs.Ytmgnmgobibpjjaa.GFnKeptFind
