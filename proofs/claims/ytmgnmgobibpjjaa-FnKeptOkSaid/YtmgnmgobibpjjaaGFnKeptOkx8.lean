/- What the Go functions that FnKeptOk reaches come to, walked step by step; there is no condition beyond those each statement names. -/
import Derived.Test.YtmgnmgobibpjjaaGFnKeptOkx0
import Derived.Test.YtmgnmgobibpjjaaGFnKeptOkx1
import Derived.Test.YtmgnmgobibpjjaaGFnKeptOkx7
namespace Go.Proofs.Ytmgnmgobibpjjaa.GFnKeptOk
open Go.RowKit Go.Proofs.YtmgnmgobibpjjaaVKeptOk.PrintWords Go.Proofs.YtmgnmgobibpjjaaVKeptOk.PrintLast Go.Proofs.YtmgnmgobibpjjaaVKeptOk.PrintMore
attribute [local go_sem] max2_int min2_int max_two min_two max_three min_three max_four min_four   -- for this text's walks alone
set_option linter.unusedVariables false
set_option linter.unusedSimpArgs false

/-! ### spec_NameAsk: function 30 -/
mutual
def spec_NameAsk.j0 : Nat → List (S26) → ByteArray → Bool → Option (ByteArray × Int × Int × ByteArray × Int × Bool)
 | 0, _, _, _ => none
 | k + 1, x0, x1, x14 => if x14 = true then (some ((⟨#[]⟩ : ByteArray), 0, 0, (⟨#[]⟩ : ByteArray), 0, false)) else (spec_NameAsk.l0 k x0 x1 0)
def spec_NameAsk.l0 : Nat → List (S26) → ByteArray → Int → Option (ByteArray × Int × Int × ByteArray × Int × Bool)
 | 0, _, _, _ => none
 | k + 1, x0, x1, x6 => if x6 < (x0.length : Int) then (if 0 ≤ x6 then (if ((rd_T26 x0 x6).f0).toList = x1.toList then (some ((rd_T26 x0 x6).f0, (rd_T26 x0 x6).f1, (rd_T26 x0 x6).f2, (rd_T26 x0 x6).f3, (rd_T26 x0 x6).f4, true)) else (spec_NameAsk.l0 k x0 x1 (wrap64 (x6 + 1)))) else (none)) else (some (x1, 0, 0, (⟨#[]⟩ : ByteArray), 5, true))
end
def spec_NameAsk.f (k : Nat) (l0 : List (S26)) (a1 : ByteArray) : Option (ByteArray × Int × Int × ByteArray × Int × Bool) := (spec_NamesOk.f k l0).bind fun t229 => (if t229 = true then ((spec_l19Word.f k a1).bind fun t230 => (spec_NameAsk.j0 k l0 a1 (!t230))) else (spec_NameAsk.j0 k l0 a1 true))
theorem spec_NameAsk.mono_l : ∀ k, (∀ y0 y1 y2, LeO (spec_NameAsk.j0 k y0 y1 y2) (spec_NameAsk.j0 (k + 1) y0 y1 y2)) ∧ (∀ y0 y1 y2, LeO (spec_NameAsk.l0 k y0 y1 y2) (spec_NameAsk.l0 (k + 1) y0 y1 y2))
 | 0 => ⟨fun _ _ _ r h => by simp [spec_NameAsk.j0] at h, fun _ _ _ r h => by simp [spec_NameAsk.l0] at h⟩
 | k + 1 => by
  obtain ⟨ih0, ih1⟩ := spec_NameAsk.mono_l k
  refine ⟨?_, ?_⟩
  ·intro y0 y1 y2
   unfold spec_NameAsk.j0
   repeat' first
   | (with_reducible exact ih0 _ _ _)
   | (with_reducible exact ih1 _ _ _)
   | (with_reducible exact spec_NamesOk.mono _ _)
   | (with_reducible exact spec_l19Word.mono _ _)
   | (with_reducible exact LeO.refl _)
   | (with_reducible exact LeO.none _)
   | (with_reducible refine LeO.ite ?_ ?_)
   | (with_reducible refine LeO.bind ?_ (fun _ => ?_))
   | exact ih0 _ _ _
   | exact ih1 _ _ _
   | exact spec_NamesOk.mono _ _
   | exact spec_l19Word.mono _ _
   | exact LeO.none _
   | refine LeO.ite ?_ ?_
   | refine LeO.bind ?_ (fun _ => ?_)
  ·intro y0 y1 y2
   unfold spec_NameAsk.l0
   repeat' first
   | (with_reducible exact ih0 _ _ _)
   | (with_reducible exact ih1 _ _ _)
   | (with_reducible exact spec_NamesOk.mono _ _)
   | (with_reducible exact spec_l19Word.mono _ _)
   | (with_reducible exact LeO.refl _)
   | (with_reducible exact LeO.none _)
   | (with_reducible refine LeO.ite ?_ ?_)
   | (with_reducible refine LeO.bind ?_ (fun _ => ?_))
   | exact ih0 _ _ _
   | exact ih1 _ _ _
   | exact spec_NamesOk.mono _ _
   | exact spec_l19Word.mono _ _
   | exact LeO.none _
   | refine LeO.ite ?_ ?_
   | refine LeO.bind ?_ (fun _ => ?_)
theorem spec_NameAsk.mono : ∀ a0 a1 k, LeO (spec_NameAsk.f k a0 a1) (spec_NameAsk.f (k + 1) a0 a1) := by
 intro a0 a1 k
 obtain ⟨ih0, ih1⟩ := spec_NameAsk.mono_l k
 unfold spec_NameAsk.f
 repeat' first
   | (with_reducible exact ih0 _ _ _)
   | (with_reducible exact ih1 _ _ _)
   | (with_reducible exact spec_NamesOk.mono _ _)
   | (with_reducible exact spec_l19Word.mono _ _)
   | (with_reducible exact LeO.refl _)
   | (with_reducible exact LeO.none _)
   | (with_reducible refine LeO.ite ?_ ?_)
   | (with_reducible refine LeO.bind ?_ (fun _ => ?_))
   | exact ih0 _ _ _
   | exact ih1 _ _ _
   | exact spec_NamesOk.mono _ _
   | exact spec_l19Word.mono _ _
   | exact LeO.none _
   | refine LeO.ite ?_ ?_
   | refine LeO.bind ?_ (fun _ => ?_)
set_option maxHeartbeats 8000000 in
set_option maxRecDepth 100000 in
theorem spec_NameAsk.calls (k : Nat) (A0 : Option Addr) (c0 : Nat) (l0 : List (S26)) (a1 : ByteArray) (r1 : ByteArray) (r2 : Int) (r3 : Int) (r4 : ByteArray) (r5 : Int) (r6 : Bool) (w : World) (hr0 : Kd.C k26 w A0 l0.length l0) (hc0 : l0.length ≤ c0) (h : spec_NameAsk.f k l0 a1 = some (r1, r2, r3, r4, r5, r6)) :
  Calls Try.prog 30 #[.slice A0 l0.length c0, .string a1] w fun e w' => e = .returned (.tuple #[.agg #[.string r1, .int .i64 r2, .int .i64 r3, .string r4, .int .i64 r5], .bool r6]) ∧ Below w.heap.size w w' := by
 have hu26 := Try.underlying26
 have HR0 := Aside0.mk hr0
 have HC0 := Aside0.mk hc0
 clear hr0 hc0
 have HB := Aside0.mk (Below.refl w.heap.size w)
 have H : ((spec_NamesOk.f k l0).bind fun t229 => (if t229 = true then ((spec_l19Word.f k a1).bind fun t230 => (spec_NameAsk.j0 k l0 a1 (!t230))) else (spec_NameAsk.j0 k l0 a1 true))) = some (r1, r2, r3, r4, r5, r6) := h
 clear h
 have HC3 := Aside0.mk H
 clear H
 go_enter Try.func30, Try.ntmps30
 go_upto_region 1 with (first | ((with_reducible refine gate_dst (N := 4) rfl ?_); refine box_event ?hg (N := 4) ?hd (cs := #[.string (⟨#[]⟩ : ByteArray), .int .i64 0, .int .i64 0, .string (⟨#[]⟩ : ByteArray), .int .i64 0]) (t := 26) ?hr ?_; (case hd => rfl); (case hg => rfl); (case hr => exact z_7); intro gb228 hg w4 hbox hb; have n0_ := Aside0.mk (below_step (z_6) hb); have n1_ := Aside0.mk (hbox); have n2_ := Aside0.mk ((z_16 : w.heap.size ≤ gb228)); have n3_ := Aside0.mk ((z_16 : w.heap.size ≤ gb228)); clear HB; have HB := n0_; have BK228 := n1_; have GW228 := n2_; have GE228 := n3_; clear n0_ n1_ n2_ n3_; clear hb hbox hg))
 (try simp only [Act.put, List.setIfInBounds_toArray, List.set_cons_zero, List.set_cons_succ])
 go_cut [14] (fun v14 wc => ∃ (kq : Nat) (x14_2 : Bool), v14 = .bool x14_2 ∧ Aside0 (spec_NameAsk.j0 kq l0 a1 x14_2 = some (r1, r2, r3, r4, r5, r6)) ∧ Aside0 (kq ≤ k) ∧ Aside0 (wc.heap[gb228]? = some (.cells #[.string (⟨#[]⟩ : ByteArray), .int .i64 0, .int .i64 0, .string (⟨#[]⟩ : ByteArray), .int .i64 0] 26 (0, 0))) ∧ Aside0 (Below w.heap.size w wc))
 case first =>
  have H := HC3.out
  clear HC3
  replace H := Option.bind_eq_some_iff.mp H
  obtain ⟨t229, A50, H⟩ := H
  have A5 := Aside0.mk A50
  clear A50
  by_cases c6 : t229 = true
  ·subst c6
   rw [if_pos rfl] at H
   replace H := Option.bind_eq_some_iff.mp H
   obtain ⟨t230, A70, H⟩ := H
   have A7 := Aside0.mk A70
   clear A70
   have H' := Aside0.mk H
   clear H
   go_wp2_with (first | ((with_reducible refine gate_callee (f := 25) rfl ?_); refine goesL_ (some 8) rfl rfl Try.func25 (z_0) rfl #[.slice A0 l0.length c0] rfl (z_12) ?_; (with_reducible refine (spec_NamesOk.calls k _ _ l0 true _ ?side1 ?side2 A5.out).mono ?_); (case side1 => exact z_53); (case side2 => exact HC0.out); rintro e w8 ⟨rfl, hb⟩; refine ⟨_, rfl, ?_⟩; have n0_ := Aside0.mk (blk_below (g := gb228) (o := .cells #[.string (⟨#[]⟩ : ByteArray), .int .i64 0, .int .i64 0, .string (⟨#[]⟩ : ByteArray), .int .i64 0] 26 (0, 0)) (z_54) hb); have n1_ := Aside0.mk (below_step (z_55) hb); clear BK228; clear HB; have BK228 := n0_; have HB := n1_; clear n0_ n1_; (try clear hb); (try clear hb2); (try clear hk); (try clear hi)) | (go_at_call 54; (with_reducible refine (spec_l19Word.calls k a1 t230 _ A7.out).mono ?_); rintro e w' ⟨rfl, ⟨nd, rfl⟩⟩))
   go_meet
   case rel => exact ⟨_, (!t230), (z_1), H', ⟨z_17⟩, ⟨z_54⟩, ⟨z_55⟩⟩
  ·replace c6 := Bool.eq_false_iff.mpr c6
   subst c6
   rw [if_neg (show ¬ (false = true) by decide)] at H
   have H' := Aside0.mk H
   clear H
   go_wp2_with (first | ((with_reducible refine gate_callee (f := 25) rfl ?_); refine goesL_ (some 8) rfl rfl Try.func25 (z_0) rfl #[.slice A0 l0.length c0] rfl (z_12) ?_; (with_reducible refine (spec_NamesOk.calls k _ _ l0 false _ ?side1 ?side2 A5.out).mono ?_); (case side1 => exact z_53); (case side2 => exact HC0.out); rintro e w9 ⟨rfl, hb⟩; refine ⟨_, rfl, ?_⟩; have n0_ := Aside0.mk (blk_below (g := gb228) (o := .cells #[.string (⟨#[]⟩ : ByteArray), .int .i64 0, .int .i64 0, .string (⟨#[]⟩ : ByteArray), .int .i64 0] 26 (0, 0)) (z_54) hb); have n1_ := Aside0.mk (below_step (z_55) hb); clear BK228; clear HB; have BK228 := n0_; have HB := n1_; clear n0_ n1_; (try clear hb); (try clear hb2); (try clear hk); (try clear hi)))
   go_meet
   case rel => exact ⟨_, (true), (z_1), H', ⟨z_17⟩, ⟨z_54⟩, ⟨z_55⟩⟩
 case rest =>
  clear HC3
  try clear c2
  try clear p2
  try clear c3
  try clear c6
  obtain ⟨kq, x14_2, rfl, HA, HJ2, BK228, HB⟩ := hcut
  cases kq with
  | zero => exact absurd HA.out (by simp [spec_NameAsk.j0])
  | succ kj2 =>
   have H := HA.out
   clear HA
   simp only [spec_NameAsk.j0] at H
   by_cases c10 : x14_2 = true
   ·subst c10
    rw [if_pos rfl] at H
    simp only [Option.some.injEq, Prod.mk.injEq] at H
    obtain ⟨rfl, rfl, rfl, rfl, rfl, rfl⟩ := H
    have hcz11_0 : wc.cell? ⟨gb228, 0, none⟩ = some (.string (⟨#[]⟩ : ByteArray)) := (blk_cell BK228.out 0).trans rfl
    have hcz11_1 : wc.cell? ⟨gb228, 1, none⟩ = some (.int .i64 0) := (blk_cell BK228.out 1).trans rfl
    have hcz11_2 : wc.cell? ⟨gb228, 2, none⟩ = some (.int .i64 0) := (blk_cell BK228.out 2).trans rfl
    have hcz11_3 : wc.cell? ⟨gb228, 3, none⟩ = some (.string (⟨#[]⟩ : ByteArray)) := (blk_cell BK228.out 3).trans rfl
    have hcz11_4 : wc.cell? ⟨gb228, 4, none⟩ = some (.int .i64 0) := (blk_cell BK228.out 4).trans rfl
    have hfz11_0 := blk_frozen BK228.out 0
    have hfz11_1 := blk_frozen BK228.out 1
    have hfz11_2 := blk_frozen BK228.out 2
    have hfz11_3 := blk_frozen BK228.out 3
    have hfz11_4 := blk_frozen BK228.out 4
    go_wp2
    refine bodyPost_ret (results_ct rfl _ _ gb228 26 #[.string (⟨#[]⟩ : ByteArray), .int .i64 0, .int .i64 0, .string (⟨#[]⟩ : ByteArray), .int .i64 0] (0, 0) _ rfl (by (with_reducible repeat (first | refine blk_drewN ?_ _ | refine blk_drew ?_ | refine blk_alloc ?_ _)); refine blk_put (cs := #[.string (⟨#[]⟩ : ByteArray), .int .i64 0, .int .i64 0, .string (⟨#[]⟩ : ByteArray), .int .i64 0]) ?_ 4 _ rfl; (with_reducible repeat (first | refine blk_drewN ?_ _ | refine blk_drew ?_ | refine blk_alloc ?_ _)); refine blk_put (cs := #[.string (⟨#[]⟩ : ByteArray), .int .i64 0, .int .i64 0, .string (⟨#[]⟩ : ByteArray), .int .i64 0]) ?_ 3 _ rfl; (with_reducible repeat (first | refine blk_drewN ?_ _ | refine blk_drew ?_ | refine blk_alloc ?_ _)); refine blk_put (cs := #[.string (⟨#[]⟩ : ByteArray), .int .i64 0, .int .i64 0, .string (⟨#[]⟩ : ByteArray), .int .i64 0]) ?_ 2 _ rfl; (with_reducible repeat (first | refine blk_drewN ?_ _ | refine blk_drew ?_ | refine blk_alloc ?_ _)); refine blk_put (cs := #[.string (⟨#[]⟩ : ByteArray), .int .i64 0, .int .i64 0, .string (⟨#[]⟩ : ByteArray), .int .i64 0]) ?_ 1 _ rfl; (with_reducible repeat (first | refine blk_drewN ?_ _ | refine blk_drew ?_ | refine blk_alloc ?_ _)); refine blk_put (cs := #[.string (⟨#[]⟩ : ByteArray), .int .i64 0, .int .i64 0, .string (⟨#[]⟩ : ByteArray), .int .i64 0]) ?_ 0 _ rfl; (with_reducible repeat (first | refine blk_drewN ?_ _ | refine blk_drew ?_ | refine blk_alloc ?_ _)); exact BK228.out) Try.underlying26 rfl (z_0)) rfl ?_
    exact ⟨z_11, z_55⟩
   ·replace c10 := Bool.eq_false_iff.mpr c10
    subst c10
    rw [if_neg (show ¬ (false = true) by decide)] at H
    have H' := Aside0.mk H
    clear H
    go_wp2
    go_loopg [6] kj2 (fun kq v6 w' => ∃ (x6_2 : Int) (x229000_2 : ByteArray) (x229001_2 : Int) (x229002_2 : Int) (x229003_2 : ByteArray) (x229004_2 : Int), v6 = .int .i64 x6_2 ∧ Aside0 (spec_NameAsk.l0 kq l0 a1 x6_2 = some (r1, r2, r3, r4, r5, r6)) ∧ Aside0 (kq ≤ kj2) ∧ Aside0 (w'.heap[gb228]? = some (.cells #[.string x229000_2, .int .i64 x229001_2, .int .i64 x229002_2, .string x229003_2, .int .i64 x229004_2] 26 (0, 0))) ∧ Aside0 (Below w.heap.size w w'))
    case atStart => exact ⟨(0), ((⟨#[]⟩ : ByteArray)), (0), (0), ((⟨#[]⟩ : ByteArray)), (0), (z_1), H', ⟨Nat.le_refl _⟩, ⟨z_54⟩, ⟨z_55⟩⟩
    case round =>
     clear H'
     try clear c1
     try clear c2
     try clear p2
     try clear c3
     try clear c6
     try clear c10
     try clear hcz11_0
     try clear hcz11_1
     try clear hcz11_2
     try clear hcz11_3
     try clear hcz11_4
     try clear hfz11_0
     try clear hfz11_1
     try clear hfz11_2
     try clear hfz11_3
     try clear hfz11_4
     try clear p2
     obtain ⟨x6_2, x229000_2, x229001_2, x229002_2, x229003_2, x229004_2, rfl, HA, HK2, BK228, HB⟩ := hrel
     cases gk with
     | zero => exact absurd HA.out (by simp [spec_NameAsk.l0])
     | succ k2 =>
      have H := HA.out
      clear HA
      simp only [spec_NameAsk.l0] at H
      by_cases c12 : x6_2 < (l0.length : Int)
      ·rw [if_pos c12] at H
       have c12b0 : decide (x6_2 < (l0.length : Int)) = true := decide_eq_true c12
       clear c12
       by_cases c13 : 0 ≤ x6_2
       ·rw [if_pos c13] at H
        have c13b0 : decide (0 ≤ x6_2) = true := decide_eq_true c13
        clear c13
        by_cases c14 : ((rd_T26 l0 x6_2).f0).toList = a1.toList
        ·rw [if_pos c14] at H
         have c14b0 : (((rd_T26 l0 x6_2).f0).toList == a1.toList) = true := beq_iff_eq.mpr c14
         have c14b1 : (((rd_T26 l0 x6_2).f0).toList != a1.toList) = false := bne_eq_false_iff_eq.mpr c14
         clear c14
         simp only [Option.some.injEq, Prod.mk.injEq] at H
         obtain ⟨rfl, rfl, rfl, rfl, rfl, rfl⟩ := H
         have p231 : 0 ≤ (x6_2 : Int) := of_decide_eq_true (z_5)
         have q231 : x6_2 < (l0.length : Int) := of_decide_eq_true (z_5)
         obtain ⟨ad231, e231, hx231_0, hx231_1, hx231_2, hx231_3, hx231_4⟩ := at_T26 HR0.out x6_2 p231 q231
         cases e231
         replace hx231_0 := pw_cell_below HB.out hx231_0
         replace hx231_1 := pw_cell_below HB.out hx231_1
         replace hx231_2 := pw_cell_below HB.out hx231_2
         replace hx231_3 := pw_cell_below HB.out hx231_3
         replace hx231_4 := pw_cell_below HB.out hx231_4
         replace p231 := eq_true p231
         replace q231 := eq_true q231
         have p232 : 0 ≤ (x6_2 : Int) := of_decide_eq_true (z_5)
         have q232 : x6_2 < (l0.length : Int) := of_decide_eq_true (z_5)
         obtain ⟨ad232, e232, hx232_0, hx232_1, hx232_2, hx232_3, hx232_4⟩ := at_T26 HR0.out x6_2 p232 q232
         obtain rfl : ad231 = ad232 := (by injection e232)
         replace hx232_0 := pw_cell_below HB.out hx232_0
         replace hx232_1 := pw_cell_below HB.out hx232_1
         replace hx232_2 := pw_cell_below HB.out hx232_2
         replace hx232_3 := pw_cell_below HB.out hx232_3
         replace hx232_4 := pw_cell_below HB.out hx232_4
         replace p232 := eq_true p232
         replace q232 := eq_true q232
         have hcz15_0 : wr.cell? ⟨gb228, 0, none⟩ = some (.string x229000_2) := (blk_cell BK228.out 0).trans rfl
         have hcz15_1 : wr.cell? ⟨gb228, 1, none⟩ = some (.int .i64 x229001_2) := (blk_cell BK228.out 1).trans rfl
         have hcz15_2 : wr.cell? ⟨gb228, 2, none⟩ = some (.int .i64 x229002_2) := (blk_cell BK228.out 2).trans rfl
         have hcz15_3 : wr.cell? ⟨gb228, 3, none⟩ = some (.string x229003_2) := (blk_cell BK228.out 3).trans rfl
         have hcz15_4 : wr.cell? ⟨gb228, 4, none⟩ = some (.int .i64 x229004_2) := (blk_cell BK228.out 4).trans rfl
         have hfz15_0 := blk_frozen BK228.out 0
         have hfz15_1 := blk_frozen BK228.out 1
         have hfz15_2 := blk_frozen BK228.out 2
         have hfz15_3 := blk_frozen BK228.out 3
         have hfz15_4 := blk_frozen BK228.out 4
         go_wp2
         refine bodyPost_ret (results_ct rfl _ _ gb228 26 #[.string ((rd_T26 l0 x6_2).f0), .int .i64 ((rd_T26 l0 x6_2).f1), .int .i64 ((rd_T26 l0 x6_2).f2), .string ((rd_T26 l0 x6_2).f3), .int .i64 ((rd_T26 l0 x6_2).f4)] (0, 0) _ rfl (by (with_reducible repeat (first | refine blk_drewN ?_ _ | refine blk_drew ?_ | refine blk_alloc ?_ _)); refine blk_put (cs := #[.string ((rd_T26 l0 x6_2).f0), .int .i64 ((rd_T26 l0 x6_2).f1), .int .i64 ((rd_T26 l0 x6_2).f2), .string ((rd_T26 l0 x6_2).f3), .int .i64 x229004_2]) ?_ 4 _ rfl; (with_reducible repeat (first | refine blk_drewN ?_ _ | refine blk_drew ?_ | refine blk_alloc ?_ _)); refine blk_put (cs := #[.string ((rd_T26 l0 x6_2).f0), .int .i64 ((rd_T26 l0 x6_2).f1), .int .i64 ((rd_T26 l0 x6_2).f2), .string x229003_2, .int .i64 x229004_2]) ?_ 3 _ rfl; (with_reducible repeat (first | refine blk_drewN ?_ _ | refine blk_drew ?_ | refine blk_alloc ?_ _)); refine blk_put (cs := #[.string ((rd_T26 l0 x6_2).f0), .int .i64 ((rd_T26 l0 x6_2).f1), .int .i64 x229002_2, .string x229003_2, .int .i64 x229004_2]) ?_ 2 _ rfl; (with_reducible repeat (first | refine blk_drewN ?_ _ | refine blk_drew ?_ | refine blk_alloc ?_ _)); refine blk_put (cs := #[.string ((rd_T26 l0 x6_2).f0), .int .i64 x229001_2, .int .i64 x229002_2, .string x229003_2, .int .i64 x229004_2]) ?_ 1 _ rfl; (with_reducible repeat (first | refine blk_drewN ?_ _ | refine blk_drew ?_ | refine blk_alloc ?_ _)); refine blk_put (cs := #[.string x229000_2, .int .i64 x229001_2, .int .i64 x229002_2, .string x229003_2, .int .i64 x229004_2]) ?_ 0 _ rfl; (with_reducible repeat (first | refine blk_drewN ?_ _ | refine blk_drew ?_ | refine blk_alloc ?_ _)); exact BK228.out) Try.underlying26 rfl (z_0)) rfl ?_
         exact ⟨z_11, z_55⟩
        ·rw [if_neg c14] at H
         have c14b0 : (((rd_T26 l0 x6_2).f0).toList == a1.toList) = false := beq_eq_false_iff_ne.mpr c14
         have c14b1 : (((rd_T26 l0 x6_2).f0).toList != a1.toList) = true := bne_iff_ne.mpr c14
         have H' := Aside0.mk H
         clear H
         have p231 : 0 ≤ (x6_2 : Int) := of_decide_eq_true (z_5)
         have q231 : x6_2 < (l0.length : Int) := of_decide_eq_true (z_5)
         obtain ⟨ad231, e231, hx231_0, hx231_1, hx231_2, hx231_3, hx231_4⟩ := at_T26 HR0.out x6_2 p231 q231
         cases e231
         replace hx231_0 := pw_cell_below HB.out hx231_0
         replace hx231_1 := pw_cell_below HB.out hx231_1
         replace hx231_2 := pw_cell_below HB.out hx231_2
         replace hx231_3 := pw_cell_below HB.out hx231_3
         replace hx231_4 := pw_cell_below HB.out hx231_4
         replace p231 := eq_true p231
         replace q231 := eq_true q231
         go_wp2
         go_roundg k2
         case measure => have := HJ2.out; have := HK2.out; omega
         case rel => exact ⟨(wrap64 (x6_2 + 1)), (x229000_2), (x229001_2), (x229002_2), (x229003_2), (x229004_2), (z_1), H', ⟨by have := HJ2.out; have := HK2.out; omega⟩, ⟨z_54⟩, ⟨z_55⟩⟩
       ·rw [if_neg c13] at H
        exact absurd H (z_10)
      ·rw [if_neg c12] at H
       have c12b0 : decide (x6_2 < (l0.length : Int)) = false := decide_eq_false c12
       clear c12
       simp only [Option.some.injEq, Prod.mk.injEq] at H
       obtain ⟨rfl, rfl, rfl, rfl, rfl, rfl⟩ := H
       have hcz16_0 : wr.cell? ⟨gb228, 0, none⟩ = some (.string x229000_2) := (blk_cell BK228.out 0).trans rfl
       have hcz16_1 : wr.cell? ⟨gb228, 1, none⟩ = some (.int .i64 x229001_2) := (blk_cell BK228.out 1).trans rfl
       have hcz16_2 : wr.cell? ⟨gb228, 2, none⟩ = some (.int .i64 x229002_2) := (blk_cell BK228.out 2).trans rfl
       have hcz16_3 : wr.cell? ⟨gb228, 3, none⟩ = some (.string x229003_2) := (blk_cell BK228.out 3).trans rfl
       have hcz16_4 : wr.cell? ⟨gb228, 4, none⟩ = some (.int .i64 x229004_2) := (blk_cell BK228.out 4).trans rfl
       have hfz16_0 := blk_frozen BK228.out 0
       have hfz16_1 := blk_frozen BK228.out 1
       have hfz16_2 := blk_frozen BK228.out 2
       have hfz16_3 := blk_frozen BK228.out 3
       have hfz16_4 := blk_frozen BK228.out 4
       go_wp2
       refine bodyPost_ret (results_ct rfl _ _ gb228 26 #[.string a1, .int .i64 0, .int .i64 0, .string (⟨#[]⟩ : ByteArray), .int .i64 5] (0, 0) _ rfl (by (with_reducible repeat (first | refine blk_drewN ?_ _ | refine blk_drew ?_ | refine blk_alloc ?_ _)); refine blk_put (cs := #[.string a1, .int .i64 0, .int .i64 0, .string (⟨#[]⟩ : ByteArray), .int .i64 x229004_2]) ?_ 4 _ rfl; (with_reducible repeat (first | refine blk_drewN ?_ _ | refine blk_drew ?_ | refine blk_alloc ?_ _)); refine blk_put (cs := #[.string a1, .int .i64 0, .int .i64 0, .string x229003_2, .int .i64 x229004_2]) ?_ 3 _ rfl; (with_reducible repeat (first | refine blk_drewN ?_ _ | refine blk_drew ?_ | refine blk_alloc ?_ _)); refine blk_put (cs := #[.string a1, .int .i64 0, .int .i64 x229002_2, .string x229003_2, .int .i64 x229004_2]) ?_ 2 _ rfl; (with_reducible repeat (first | refine blk_drewN ?_ _ | refine blk_drew ?_ | refine blk_alloc ?_ _)); refine blk_put (cs := #[.string a1, .int .i64 x229001_2, .int .i64 x229002_2, .string x229003_2, .int .i64 x229004_2]) ?_ 1 _ rfl; (with_reducible repeat (first | refine blk_drewN ?_ _ | refine blk_drew ?_ | refine blk_alloc ?_ _)); refine blk_put (cs := #[.string x229000_2, .int .i64 x229001_2, .int .i64 x229002_2, .string x229003_2, .int .i64 x229004_2]) ?_ 0 _ rfl; (with_reducible repeat (first | refine blk_drewN ?_ _ | refine blk_drew ?_ | refine blk_alloc ?_ _)); exact BK228.out) Try.underlying26 rfl (z_0)) rfl ?_
       exact ⟨z_11, z_55⟩

end Go.Proofs.Ytmgnmgobibpjjaa.GFnKeptOk
