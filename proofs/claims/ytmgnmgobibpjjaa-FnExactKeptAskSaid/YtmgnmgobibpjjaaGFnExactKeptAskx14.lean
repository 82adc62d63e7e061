/- What the Go functions that FnExactKeptAsk reaches come to, walked step by step; there is no condition beyond those each statement names. -/
import Derived.Test.YtmgnmgobibpjjaaGFnExactKeptAskx0
import Derived.Test.YtmgnmgobibpjjaaGFnExactKeptAskx13
namespace Go.Proofs.Ytmgnmgobibpjjaa.GFnExactKeptAsk
open Go.RowKit Go.Proofs.YtmgnmgobibpjjaaVExactKeptAsk.PrintWords Go.Proofs.YtmgnmgobibpjjaaVExactKeptAsk.PrintLast Go.Proofs.YtmgnmgobibpjjaaVExactKeptAsk.PrintMore
open Bool renaming true → T, false → F
attribute [local go_sem] max2_int min2_int max_two min_two max_three min_three max_four min_four   -- for this text's walks alone
set_option linter.unusedVariables false
set_option linter.unusedSimpArgs false

/-! ### laws_heldKeptS: function 53 -/
def laws_heldKeptS.l0 : Nat → List (S83) → Int → Int → Option (Int)
 | 0, _, _, _ => none
 | k + 1, x0, x1, x5 => if x5 < (x0.length : Int) then (if 0 ≤ x5 then ((laws_markText.f k x1).bind fun t331 => (if ((rd_T83 x0 x5).f0.f0).toList = t331.toList then (if ((rd_T83 x0 x5).f0.f1) = (wrap64 (x1 + 1)) then (if ((rd_T83 x0 x5).f0.f2) = (wrap64 ((wrap64 (x1 + 1)) + 1)) then ((laws_markText.f k (wrap64 ((wrap64 ((wrap64 (x1 + 1)) + 1)) + 1))).bind fun t335 => (if ((rd_T83 x0 x5).f0.f3).toList = t335.toList then (if ((rd_T83 x0 x5).f0.f4) = (wrap64 ((wrap64 ((wrap64 ((wrap64 (x1 + 1)) + 1)) + 1)) + 1)) then (if ((rd_T83 x0 x5).f1) = (wrap64 ((wrap64 ((wrap64 ((wrap64 ((wrap64 (x1 + 1)) + 1)) + 1)) + 1)) + 1)) then (laws_heldKeptS.l0 k x0 (wrap64 ((wrap64 ((wrap64 ((wrap64 ((wrap64 ((wrap64 (x1 + 1)) + 1)) + 1)) + 1)) + 1)) + 1)) (wrap64 (x5 + 1))) else (some (-1))) else (some (-1))) else (some (-1)))) else (some (-1))) else (some (-1))) else (some (-1)))) else (none)) else (some x1)
def laws_heldKeptS.f (k : Nat) (l0 : List (S83)) (a1 : Int) : Option (Int) := laws_heldKeptS.l0 k l0 a1 0
theorem laws_heldKeptS.mono_l : ∀ k, (∀ y0 y1 y2, LeO (laws_heldKeptS.l0 k y0 y1 y2) (laws_heldKeptS.l0 (k + 1) y0 y1 y2))
 | 0 => fun _ _ _ r h => by simp [laws_heldKeptS.l0] at h
 | k + 1 => by
  have ih0 := laws_heldKeptS.mono_l k
  ·intro y0 y1 y2
   unfold laws_heldKeptS.l0
   repeat' first
   | (with_reducible exact ih0 _ _ _)
   | (with_reducible exact laws_markText.mono _ _)
   | (with_reducible exact LeO.refl _)
   | (with_reducible exact LeO.none _)
   | (with_reducible refine LeO.ite ?_ ?_)
   | (with_reducible refine LeO.bind ?_ (fun _ => ?_))
   | exact ih0 _ _ _
   | exact laws_markText.mono _ _
   | exact LeO.none _
   | refine LeO.ite ?_ ?_
   | refine LeO.bind ?_ (fun _ => ?_)
theorem laws_heldKeptS.mono : ∀ a0 a1 k, LeO (laws_heldKeptS.f k a0 a1) (laws_heldKeptS.f (k + 1) a0 a1) := by
 intro a0 a1 k
 have ih0 := laws_heldKeptS.mono_l k
 unfold laws_heldKeptS.f
 repeat' first
   | (with_reducible exact ih0 _ _ _)
   | (with_reducible exact laws_markText.mono _ _)
   | (with_reducible exact LeO.refl _)
   | (with_reducible exact LeO.none _)
   | (with_reducible refine LeO.ite ?_ ?_)
   | (with_reducible refine LeO.bind ?_ (fun _ => ?_))
   | exact ih0 _ _ _
   | exact laws_markText.mono _ _
   | exact LeO.none _
   | refine LeO.ite ?_ ?_
   | refine LeO.bind ?_ (fun _ => ?_)
def laws_heldKeptS.T4 : Bool × List (List Nat × List Nat) := (true, [([], []), ([], []), ([0, 1], [0, 1]), ([2], [2]), ([3], [3]), ([4], [4]), ([], []), ([6], [6]), ([5, 7], [5, 7])])
def laws_heldKeptS.B4 : List Nat := [0, 0, 3, 7, 15, 31, 0, 64, 255]
theorem laws_heldKeptS.tab4 : rtab .any (opsOf Try.f53 4) = laws_heldKeptS.T4 := z_0
theorem laws_heldKeptS.bits4 : waitsOk laws_heldKeptS.T4.2 laws_heldKeptS.B4 = true := z_0
def laws_heldKeptS.T13 : Bool × List (List Nat × List Nat) := (true, [([], []), ([], []), ([0, 1], [0, 1]), ([2], [2]), ([3], [3]), ([4], [4]), ([], []), ([6], [6]), ([5, 7], [5, 7])])
def laws_heldKeptS.B13 : List Nat := [0, 0, 3, 7, 15, 31, 0, 64, 255]
theorem laws_heldKeptS.tab13 : rtab .any (opsOf Try.f53 13) = laws_heldKeptS.T13 := z_0
theorem laws_heldKeptS.bits13 : waitsOk laws_heldKeptS.T13.2 laws_heldKeptS.B13 = true := z_0
set_option maxHeartbeats 8000000 in
set_option maxRecDepth 100000 in
theorem laws_heldKeptS.calls (k : Nat) (A0 : Option Addr) (c0 : Nat) (l0 : List (S83)) (a1 : Int) (r : Int) (w : World) (hr0 : Kd.C k83 w A0 l0.length l0) (hc0 : l0.length ≤ c0) (h : laws_heldKeptS.f k l0 a1 = some r) :
  Calls Try.prog 53 #[.slice A0 l0.length c0, .int .i64 a1] w fun e w' => e = .returned (.int .i64 r) ∧ Below w.heap.size w w' := by
 have HR0 := Aside0.mk hr0
 have HC0 := Aside0.mk hc0
 clear hr0 hc0
 have HB := Aside0.mk (Below.refl w.heap.size w)
 have H : (laws_heldKeptS.l0 k l0 a1 0) = some r := h
 clear h
 have H' := Aside0.mk H
 clear H
 go_enter Try.func53, Try.ntmps53
 go_wp2
 go_loopg [1, 5] k (fun kq v1 v5 w' => ∃ (x1_1 : Int) (x5_1 : Int), v1 = .int .i64 x1_1 ∧ v5 = .int .i64 x5_1 ∧ Aside0 (laws_heldKeptS.l0 kq l0 x1_1 x5_1 = some r) ∧ Aside0 (kq ≤ k) ∧ Aside0 (Below w.heap.size w w'))
 case atStart => exact ⟨(a1), (0), (z_6), (z_6), H', ⟨Nat.le_refl _⟩, ⟨z_2⟩⟩
 case round =>
  clear H'
  try clear p2
  obtain ⟨x1_1, x5_1, rfl, rfl, HA, HK1, HB⟩ := hrel
  cases gk with
  | zero => exact absurd HA.out (by simp [laws_heldKeptS.l0])
  | succ k1 =>
   have H := HA.out
   clear HA
   simp only [laws_heldKeptS.l0] at H
   by_cases c3 : x5_1 < (l0.length : Int)
   ·rw [if_pos c3] at H
    have c3b0 : decide (x5_1 < (l0.length : Int)) = true := decide_eq_true c3
    clear c3
    by_cases c4 : 0 ≤ x5_1
    ·rw [if_pos c4] at H
     have c4b0 : decide (0 ≤ x5_1) = true := decide_eq_true c4
     clear c4
     replace H := Option.bind_eq_some_iff.mp H
     obtain ⟨t331, A50, H⟩ := H
     have A5 := Aside0.mk A50
     clear A50
     by_cases c6 : ((rd_T83 l0 x5_1).f0.f0).toList = t331.toList
     ·rw [if_pos c6] at H
      have c6b0 : (((rd_T83 l0 x5_1).f0.f0).toList == t331.toList) = true := beq_iff_eq.mpr c6
      have c6b1 : (((rd_T83 l0 x5_1).f0.f0).toList != t331.toList) = false := bne_eq_false_iff_eq.mpr c6
      clear c6
      by_cases c7 : ((rd_T83 l0 x5_1).f0.f1) = (wrap64 (x1_1 + 1))
      ·rw [if_pos c7] at H
       have c7b0 : (((rd_T83 l0 x5_1).f0.f1) == (wrap64 (x1_1 + 1))) = true := beq_iff_eq.mpr c7
       have c7b1 : (((rd_T83 l0 x5_1).f0.f1) != (wrap64 (x1_1 + 1))) = false := bne_eq_false_iff_eq.mpr c7
       clear c7
       by_cases c8 : ((rd_T83 l0 x5_1).f0.f2) = (wrap64 ((wrap64 (x1_1 + 1)) + 1))
       ·rw [if_pos c8] at H
        have c8b0 : (((rd_T83 l0 x5_1).f0.f2) == (wrap64 ((wrap64 (x1_1 + 1)) + 1))) = true := beq_iff_eq.mpr c8
        have c8b1 : (((rd_T83 l0 x5_1).f0.f2) != (wrap64 ((wrap64 (x1_1 + 1)) + 1))) = false := bne_eq_false_iff_eq.mpr c8
        clear c8
        replace H := Option.bind_eq_some_iff.mp H
        obtain ⟨t335, A90, H⟩ := H
        have A9 := Aside0.mk A90
        clear A90
        by_cases c10 : ((rd_T83 l0 x5_1).f0.f3).toList = t335.toList
        ·rw [if_pos c10] at H
         have c10b0 : (((rd_T83 l0 x5_1).f0.f3).toList == t335.toList) = true := beq_iff_eq.mpr c10
         have c10b1 : (((rd_T83 l0 x5_1).f0.f3).toList != t335.toList) = false := bne_eq_false_iff_eq.mpr c10
         clear c10
         by_cases c11 : ((rd_T83 l0 x5_1).f0.f4) = (wrap64 ((wrap64 ((wrap64 ((wrap64 (x1_1 + 1)) + 1)) + 1)) + 1))
         ·rw [if_pos c11] at H
          have c11b0 : (((rd_T83 l0 x5_1).f0.f4) == (wrap64 ((wrap64 ((wrap64 ((wrap64 (x1_1 + 1)) + 1)) + 1)) + 1))) = true := beq_iff_eq.mpr c11
          have c11b1 : (((rd_T83 l0 x5_1).f0.f4) != (wrap64 ((wrap64 ((wrap64 ((wrap64 (x1_1 + 1)) + 1)) + 1)) + 1))) = false := bne_eq_false_iff_eq.mpr c11
          clear c11
          by_cases c12 : ((rd_T83 l0 x5_1).f1) = (wrap64 ((wrap64 ((wrap64 ((wrap64 ((wrap64 (x1_1 + 1)) + 1)) + 1)) + 1)) + 1))
          ·rw [if_pos c12] at H
           have c12b0 : (((rd_T83 l0 x5_1).f1) == (wrap64 ((wrap64 ((wrap64 ((wrap64 ((wrap64 (x1_1 + 1)) + 1)) + 1)) + 1)) + 1))) = true := beq_iff_eq.mpr c12
           have c12b1 : (((rd_T83 l0 x5_1).f1) != (wrap64 ((wrap64 ((wrap64 ((wrap64 ((wrap64 (x1_1 + 1)) + 1)) + 1)) + 1)) + 1))) = false := bne_eq_false_iff_eq.mpr c12
           clear c12
           have H' := Aside0.mk H
           clear H
           try go_wp2
           have n0_ := Aside0.mk (below_drew1 HB.out)
           clear HB
           have HB := n0_
           clear n0_
           have p330 : 0 ≤ (x5_1 : Int) := of_decide_eq_true (z_7)
           have q330 : x5_1 < (l0.length : Int) := of_decide_eq_true (z_7)
           obtain ⟨ad330, e330, hx330_0, hx330_1, hx330_2, hx330_3, hx330_4, hx330_5⟩ := at_T83 HR0.out x5_1 p330 q330
           have hw330_5 := hx330_5
           have hw330_4 := hx330_4
           have hw330_3 := hx330_3
           have hw330_2 := hx330_2
           have hw330_1 := hx330_1
           have hw330_0 := hx330_0
           cases e330
           replace hx330_0 := pw_cell_below HB.out hx330_0
           replace hx330_1 := pw_cell_below HB.out hx330_1
           replace hx330_2 := pw_cell_below HB.out hx330_2
           replace hx330_3 := pw_cell_below HB.out hx330_3
           replace hx330_4 := pw_cell_below HB.out hx330_4
           replace hx330_5 := pw_cell_below HB.out hx330_5
           replace p330 := eq_true p330
           replace q330 := eq_true q330
           refine start_ (n := 9) (S := fun w' => w'.cell? (ad330.add ((x5_1).toNat * 6)) = some (.string ((rd_T83 l0 x5_1).f0.f0)) ∧ w'.cell? ⟨(ad330.add ((x5_1).toNat * 6)).block, (ad330.add ((x5_1).toNat * 6)).off + 1, none⟩ = some (.int .i64 ((rd_T83 l0 x5_1).f0.f1)) ∧ w'.cell? ⟨(ad330.add ((x5_1).toNat * 6)).block, (ad330.add ((x5_1).toNat * 6)).off + 2, none⟩ = some (.int .i64 ((rd_T83 l0 x5_1).f0.f2)) ∧ w'.cell? ⟨(ad330.add ((x5_1).toNat * 6)).block, (ad330.add ((x5_1).toNat * 6)).off + 3, none⟩ = some (.string ((rd_T83 l0 x5_1).f0.f3)) ∧ w'.cell? ⟨(ad330.add ((x5_1).toNat * 6)).block, (ad330.add ((x5_1).toNat * 6)).off + 4, none⟩ = some (.int .i64 ((rd_T83 l0 x5_1).f0.f4)) ∧ w'.cell? ⟨(ad330.add ((x5_1).toNat * 6)).block, (ad330.add ((x5_1).toNat * 6)).off + 5, none⟩ = some (.int .i64 ((rd_T83 l0 x5_1).f1))) (ds := []) #[F,F,F,F,F,F,F,F,F] (z_0) rfl rfl ⟨(pw_cell_below HB.out hw330_0), (pw_cell_below HB.out hw330_1), (pw_cell_below HB.out hw330_2), (pw_cell_below HB.out hw330_3), (pw_cell_below HB.out hw330_4), (pw_cell_below HB.out hw330_5)⟩ (fun hHeld => ?_); refine with_tabW laws_heldKeptS.tab4 laws_heldKeptS.bits4 (fun HT_ HW_ => ?_)
           generalize wr.drew = w13 at HB hx330_0 hx330_1 hx330_2 hx330_3 hx330_4 hx330_5 hHeld ⊢
           refine pure_ (i := 0) (N := some 12) (v := ?_) (a' := ?_) #[T,F,F,F,F,F,F,F,F] rfl rfl (any_of HT_.out (z_0)) (fun _ _ _ h => h) (Or.inl ⟨z_30, ?_⟩) ?_ ?_
           rotate_left
           ·intro w'
            go_simp
            with_reducible rfl
           rotate_left
           ·simp only [Act.put, List.setIfInBounds_toArray, List.set_cons_zero, List.set_cons_succ, i64_w, i32_w]
            rfl
           refine pure_ (i := 1) (N := some 13) (v := ?_) (a' := ?_) #[T,T,F,F,F,F,F,F,F] rfl rfl (any_of HT_.out (z_0)) (fun _ _ _ h => h) (Or.inl ⟨z_30, ?_⟩) ?_ ?_
           rotate_left
           ·intro w'
            go_simp
            with_reducible rfl
           rotate_left
           ·simp only [Act.put, List.setIfInBounds_toArray, List.set_cons_zero, List.set_cons_succ, i64_w, i32_w]
            rfl
           refine pure_ (i := 2) (N := some 14) (v := ?_) (a' := ?_) #[T,T,T,F,F,F,F,F,F] rfl rfl (any_of HT_.out (z_0)) (fun _ _ _ h => h) (Or.inl ⟨z_30, ?_⟩) ?_ ?_
           rotate_left
           ·intro w'
            go_simp
            with_reducible rfl
           rotate_left
           ·simp only [Act.put, List.setIfInBounds_toArray, List.set_cons_zero, List.set_cons_succ, i64_w, i32_w]
            rfl
           refine pure_ (i := 3) (N := some 15) (v := ?_) (a' := ?_) #[T,T,T,T,F,F,F,F,F] rfl rfl (any_of HT_.out (z_0)) (fun _ _ _ h => h) (Or.inl ⟨z_30, ?_⟩) ?_ ?_
           rotate_left
           ·intro w'
            go_simp
            with_reducible rfl
           rotate_left
           ·simp only [Act.put, List.setIfInBounds_toArray, List.set_cons_zero, List.set_cons_succ, i64_w, i32_w]
            rfl
           refine pure_ (i := 4) (N := some 16) (v := ?_) (a' := ?_) #[T,T,T,T,T,F,F,F,F] rfl rfl (any_of HT_.out (z_0)) (fun _ _ _ h => h) (Or.inl ⟨z_30, ?_⟩) ?_ ?_
           rotate_left
           ·intro w'
            go_simp
            with_reducible rfl
           rotate_left
           ·simp only [Act.put, List.setIfInBounds_toArray, List.set_cons_zero, List.set_cons_succ, i64_w, i32_w]
            rfl
           refine pure_ (i := 6) (N := some 18) (v := ?_) (a' := ?_) #[T,T,T,T,T,F,T,F,F] rfl rfl (any_of HT_.out (z_0)) (fun _ _ _ h => h) (Or.inl ⟨z_30, ?_⟩) ?_ ?_
           rotate_left
           ·intro w'
            go_simp
            with_reducible rfl
           rotate_left
           ·simp only [Act.put, List.setIfInBounds_toArray, List.set_cons_zero, List.set_cons_succ, i64_w, i32_w]
            rfl
           refine take_ (i := 5) (N := some 17) (v := ?_) (a' := ?_) #[T,T,T,T,T,T,T,F,F] rfl rfl (take_ofW HT_.out HW_.out (z_0)) (fun _ _ _ h => h) (Or.inl ⟨z_30, ?_⟩) hHeld ?_ ?_
           rotate_left
           ·rintro w' ⟨s0, s1, s2, s3, s4, s5⟩
            go_simp
            with_reducible rfl
           rotate_left
           ·simp only [Act.put, List.setIfInBounds_toArray, List.set_cons_zero, List.set_cons_succ, i64_w, i32_w]
            rfl
           refine one_ (i := 7) (N := some 19) #[T,T,T,T,T,T,T,T,F] rfl rfl (one_of HT_.out (z_0)) (z_19) (fun K hK => ?_)
           refine goes_ Try.func77 (z_0) rfl #[.int .i64 x1_1] (z_30) rfl rfl (z_8) ?_
           with_reducible refine (laws_markText.calls k1 x1_1 t331 _ A5.out).mono ?_
           rintro e w14 ⟨rfl, hb⟩
           refine ⟨_, rfl, ?_⟩
           have n0_ := Aside0.mk (below_step (z_2) hb)
           clear HB
           have HB := n0_
           clear n0_
           (try clear hb)
           (try clear hb2)
           (try clear hk)
           (try clear hi)
           refine hK.out _ _ ⟨(pw_cell_below HB.out hw330_0), (pw_cell_below HB.out hw330_1), (pw_cell_below HB.out hw330_2), (pw_cell_below HB.out hw330_3), (pw_cell_below HB.out hw330_4), (pw_cell_below HB.out hw330_5)⟩ (fun hHeld => ?_)
           clear hK K
           refine norm_ (a' := ?_) ?_ ?_
           rotate_left
           ·show Act.put _ (some 19) _ = _
            simp only [Act.put, List.setIfInBounds_toArray, List.set_cons_zero, List.set_cons_succ, i64_w, i32_w]
            rfl
           refine pure_ (i := 8) (N := some 20) (v := ?_) (a' := ?_) #[T,T,T,T,T,T,T,T,T] rfl rfl (any_of HT_.out (z_0)) (fun _ _ _ h => h) (Or.inl ⟨z_30, ?_⟩) ?_ ?_
           rotate_left
           ·intro w'
            go_simp
            with_reducible rfl
           rotate_left
           ·simp only [Act.put, List.setIfInBounds_toArray, List.set_cons_zero, List.set_cons_succ, i64_w, i32_w]
            rfl
           refine done_ (done_of HT_.out (z_0)) ?_
           have p332 : 0 ≤ (x5_1 : Int) := of_decide_eq_true (z_7)
           have q332 : x5_1 < (l0.length : Int) := of_decide_eq_true (z_7)
           obtain ⟨ad332, e332, hx332_0, hx332_1, hx332_2, hx332_3, hx332_4, hx332_5⟩ := at_T83 HR0.out x5_1 p332 q332
           obtain rfl : ad330 = ad332 := (by injection e332)
           replace hx332_0 := pw_cell_below HB.out hx332_0
           replace hx332_1 := pw_cell_below HB.out hx332_1
           replace hx332_2 := pw_cell_below HB.out hx332_2
           replace hx332_3 := pw_cell_below HB.out hx332_3
           replace hx332_4 := pw_cell_below HB.out hx332_4
           replace hx332_5 := pw_cell_below HB.out hx332_5
           replace p332 := eq_true p332
           replace q332 := eq_true q332
           have p333 : 0 ≤ (x5_1 : Int) := of_decide_eq_true (z_7)
           have q333 : x5_1 < (l0.length : Int) := of_decide_eq_true (z_7)
           obtain ⟨ad333, e333, hx333_0, hx333_1, hx333_2, hx333_3, hx333_4, hx333_5⟩ := at_T83 HR0.out x5_1 p333 q333
           obtain rfl : ad330 = ad333 := (by injection e333)
           replace hx333_0 := pw_cell_below HB.out hx333_0
           replace hx333_1 := pw_cell_below HB.out hx333_1
           replace hx333_2 := pw_cell_below HB.out hx333_2
           replace hx333_3 := pw_cell_below HB.out hx333_3
           replace hx333_4 := pw_cell_below HB.out hx333_4
           replace hx333_5 := pw_cell_below HB.out hx333_5
           replace p333 := eq_true p333
           replace q333 := eq_true q333
           try go_wp2
           have n0_ := Aside0.mk (below_drew1 HB.out)
           clear HB
           have HB := n0_
           clear n0_
           have p334 : 0 ≤ (x5_1 : Int) := of_decide_eq_true (z_7)
           have q334 : x5_1 < (l0.length : Int) := of_decide_eq_true (z_7)
           obtain ⟨ad334, e334, hx334_0, hx334_1, hx334_2, hx334_3, hx334_4, hx334_5⟩ := at_T83 HR0.out x5_1 p334 q334
           have hw334_5 := hx334_5
           have hw334_4 := hx334_4
           have hw334_3 := hx334_3
           have hw334_2 := hx334_2
           have hw334_1 := hx334_1
           have hw334_0 := hx334_0
           obtain rfl : ad330 = ad334 := (by injection e334)
           replace hx334_0 := pw_cell_below HB.out hx334_0
           replace hx334_1 := pw_cell_below HB.out hx334_1
           replace hx334_2 := pw_cell_below HB.out hx334_2
           replace hx334_3 := pw_cell_below HB.out hx334_3
           replace hx334_4 := pw_cell_below HB.out hx334_4
           replace hx334_5 := pw_cell_below HB.out hx334_5
           replace p334 := eq_true p334
           replace q334 := eq_true q334
           refine start_ (n := 9) (S := fun w' => w'.cell? (ad330.add ((x5_1).toNat * 6)) = some (.string ((rd_T83 l0 x5_1).f0.f0)) ∧ w'.cell? ⟨(ad330.add ((x5_1).toNat * 6)).block, (ad330.add ((x5_1).toNat * 6)).off + 1, none⟩ = some (.int .i64 ((rd_T83 l0 x5_1).f0.f1)) ∧ w'.cell? ⟨(ad330.add ((x5_1).toNat * 6)).block, (ad330.add ((x5_1).toNat * 6)).off + 2, none⟩ = some (.int .i64 ((rd_T83 l0 x5_1).f0.f2)) ∧ w'.cell? ⟨(ad330.add ((x5_1).toNat * 6)).block, (ad330.add ((x5_1).toNat * 6)).off + 3, none⟩ = some (.string ((rd_T83 l0 x5_1).f0.f3)) ∧ w'.cell? ⟨(ad330.add ((x5_1).toNat * 6)).block, (ad330.add ((x5_1).toNat * 6)).off + 4, none⟩ = some (.int .i64 ((rd_T83 l0 x5_1).f0.f4)) ∧ w'.cell? ⟨(ad330.add ((x5_1).toNat * 6)).block, (ad330.add ((x5_1).toNat * 6)).off + 5, none⟩ = some (.int .i64 ((rd_T83 l0 x5_1).f1))) (ds := []) #[F,F,F,F,F,F,F,F,F] (z_0) rfl rfl ⟨(pw_cell_below HB.out hw334_0), (pw_cell_below HB.out hw334_1), (pw_cell_below HB.out hw334_2), (pw_cell_below HB.out hw334_3), (pw_cell_below HB.out hw334_4), (pw_cell_below HB.out hw334_5)⟩ (fun hHeld => ?_); refine with_tabW laws_heldKeptS.tab13 laws_heldKeptS.bits13 (fun HT_ HW_ => ?_)
           generalize w14.drew = w15 at HB hx334_0 hx334_1 hx334_2 hx334_3 hx334_4 hx334_5 hHeld ⊢
           refine pure_ (i := 0) (N := some 43) (v := ?_) (a' := ?_) #[T,F,F,F,F,F,F,F,F] rfl rfl (any_of HT_.out (z_0)) (fun _ _ _ h => h) (Or.inl ⟨z_30, ?_⟩) ?_ ?_
           rotate_left
           ·intro w'
            go_simp
            with_reducible rfl
           rotate_left
           ·simp only [Act.put, List.setIfInBounds_toArray, List.set_cons_zero, List.set_cons_succ, i64_w, i32_w]
            rfl
           refine pure_ (i := 1) (N := some 44) (v := ?_) (a' := ?_) #[T,T,F,F,F,F,F,F,F] rfl rfl (any_of HT_.out (z_0)) (fun _ _ _ h => h) (Or.inl ⟨z_30, ?_⟩) ?_ ?_
           rotate_left
           ·intro w'
            go_simp
            with_reducible rfl
           rotate_left
           ·simp only [Act.put, List.setIfInBounds_toArray, List.set_cons_zero, List.set_cons_succ, i64_w, i32_w]
            rfl
           refine pure_ (i := 2) (N := some 45) (v := ?_) (a' := ?_) #[T,T,T,F,F,F,F,F,F] rfl rfl (any_of HT_.out (z_0)) (fun _ _ _ h => h) (Or.inl ⟨z_30, ?_⟩) ?_ ?_
           rotate_left
           ·intro w'
            go_simp
            with_reducible rfl
           rotate_left
           ·simp only [Act.put, List.setIfInBounds_toArray, List.set_cons_zero, List.set_cons_succ, i64_w, i32_w]
            rfl
           refine pure_ (i := 3) (N := some 46) (v := ?_) (a' := ?_) #[T,T,T,T,F,F,F,F,F] rfl rfl (any_of HT_.out (z_0)) (fun _ _ _ h => h) (Or.inl ⟨z_30, ?_⟩) ?_ ?_
           rotate_left
           ·intro w'
            go_simp
            with_reducible rfl
           rotate_left
           ·simp only [Act.put, List.setIfInBounds_toArray, List.set_cons_zero, List.set_cons_succ, i64_w, i32_w]
            rfl
           refine pure_ (i := 4) (N := some 47) (v := ?_) (a' := ?_) #[T,T,T,T,T,F,F,F,F] rfl rfl (any_of HT_.out (z_0)) (fun _ _ _ h => h) (Or.inl ⟨z_30, ?_⟩) ?_ ?_
           rotate_left
           ·intro w'
            go_simp
            with_reducible rfl
           rotate_left
           ·simp only [Act.put, List.setIfInBounds_toArray, List.set_cons_zero, List.set_cons_succ, i64_w, i32_w]
            rfl
           refine pure_ (i := 6) (N := some 49) (v := ?_) (a' := ?_) #[T,T,T,T,T,F,T,F,F] rfl rfl (any_of HT_.out (z_0)) (fun _ _ _ h => h) (Or.inl ⟨z_30, ?_⟩) ?_ ?_
           rotate_left
           ·intro w'
            go_simp
            with_reducible rfl
           rotate_left
           ·simp only [Act.put, List.setIfInBounds_toArray, List.set_cons_zero, List.set_cons_succ, i64_w, i32_w]
            rfl
           refine take_ (i := 5) (N := some 48) (v := ?_) (a' := ?_) #[T,T,T,T,T,T,T,F,F] rfl rfl (take_ofW HT_.out HW_.out (z_0)) (fun _ _ _ h => h) (Or.inl ⟨z_30, ?_⟩) hHeld ?_ ?_
           rotate_left
           ·rintro w' ⟨s0, s1, s2, s3, s4, s5⟩
            go_simp
            with_reducible rfl
           rotate_left
           ·simp only [Act.put, List.setIfInBounds_toArray, List.set_cons_zero, List.set_cons_succ, i64_w, i32_w]
            rfl
           refine one_ (i := 7) (N := some 50) #[T,T,T,T,T,T,T,T,F] rfl rfl (one_of HT_.out (z_0)) (z_19) (fun K hK => ?_)
           refine goes_ Try.func77 (z_0) rfl #[.int .i64 (wrap64 ((wrap64 ((wrap64 (x1_1 + 1)) + 1)) + 1))] (z_30) rfl rfl (z_8) ?_
           with_reducible refine (laws_markText.calls k1 (wrap64 ((wrap64 ((wrap64 (x1_1 + 1)) + 1)) + 1)) t335 _ A9.out).mono ?_
           rintro e w16 ⟨rfl, hb⟩
           refine ⟨_, rfl, ?_⟩
           have n0_ := Aside0.mk (below_step (z_2) hb)
           clear HB
           have HB := n0_
           clear n0_
           (try clear hb)
           (try clear hb2)
           (try clear hk)
           (try clear hi)
           refine hK.out _ _ ⟨(pw_cell_below HB.out hw334_0), (pw_cell_below HB.out hw334_1), (pw_cell_below HB.out hw334_2), (pw_cell_below HB.out hw334_3), (pw_cell_below HB.out hw334_4), (pw_cell_below HB.out hw334_5)⟩ (fun hHeld => ?_)
           clear hK K
           refine norm_ (a' := ?_) ?_ ?_
           rotate_left
           ·show Act.put _ (some 50) _ = _
            simp only [Act.put, List.setIfInBounds_toArray, List.set_cons_zero, List.set_cons_succ, i64_w, i32_w]
            rfl
           refine pure_ (i := 8) (N := some 51) (v := ?_) (a' := ?_) #[T,T,T,T,T,T,T,T,T] rfl rfl (any_of HT_.out (z_0)) (fun _ _ _ h => h) (Or.inl ⟨z_30, ?_⟩) ?_ ?_
           rotate_left
           ·intro w'
            go_simp
            with_reducible rfl
           rotate_left
           ·simp only [Act.put, List.setIfInBounds_toArray, List.set_cons_zero, List.set_cons_succ, i64_w, i32_w]
            rfl
           refine done_ (done_of HT_.out (z_0)) ?_
           have p336 : 0 ≤ (x5_1 : Int) := of_decide_eq_true (z_7)
           have q336 : x5_1 < (l0.length : Int) := of_decide_eq_true (z_7)
           obtain ⟨ad336, e336, hx336_0, hx336_1, hx336_2, hx336_3, hx336_4, hx336_5⟩ := at_T83 HR0.out x5_1 p336 q336
           obtain rfl : ad330 = ad336 := (by injection e336)
           replace hx336_0 := pw_cell_below HB.out hx336_0
           replace hx336_1 := pw_cell_below HB.out hx336_1
           replace hx336_2 := pw_cell_below HB.out hx336_2
           replace hx336_3 := pw_cell_below HB.out hx336_3
           replace hx336_4 := pw_cell_below HB.out hx336_4
           replace hx336_5 := pw_cell_below HB.out hx336_5
           replace p336 := eq_true p336
           replace q336 := eq_true q336
           have p337 : 0 ≤ (x5_1 : Int) := of_decide_eq_true (z_7)
           have q337 : x5_1 < (l0.length : Int) := of_decide_eq_true (z_7)
           obtain ⟨ad337, e337, hx337_0, hx337_1, hx337_2, hx337_3, hx337_4, hx337_5⟩ := at_T83 HR0.out x5_1 p337 q337
           obtain rfl : ad330 = ad337 := (by injection e337)
           replace hx337_0 := pw_cell_below HB.out hx337_0
           replace hx337_1 := pw_cell_below HB.out hx337_1
           replace hx337_2 := pw_cell_below HB.out hx337_2
           replace hx337_3 := pw_cell_below HB.out hx337_3
           replace hx337_4 := pw_cell_below HB.out hx337_4
           replace hx337_5 := pw_cell_below HB.out hx337_5
           replace p337 := eq_true p337
           replace q337 := eq_true q337
           try go_wp2
           go_roundg k1
           case measure => have := HK1.out; omega
           case rel => exact ⟨(wrap64 ((wrap64 ((wrap64 ((wrap64 ((wrap64 ((wrap64 (x1_1 + 1)) + 1)) + 1)) + 1)) + 1)) + 1)), (wrap64 (x5_1 + 1)), (z_6), (z_6), H', ⟨z_9⟩, ⟨z_2⟩⟩
          ·rw [if_neg c12] at H
           have c12b0 : (((rd_T83 l0 x5_1).f1) == (wrap64 ((wrap64 ((wrap64 ((wrap64 ((wrap64 (x1_1 + 1)) + 1)) + 1)) + 1)) + 1))) = false := beq_eq_false_iff_ne.mpr c12
           have c12b1 : (((rd_T83 l0 x5_1).f1) != (wrap64 ((wrap64 ((wrap64 ((wrap64 ((wrap64 (x1_1 + 1)) + 1)) + 1)) + 1)) + 1))) = true := bne_iff_ne.mpr c12
           obtain rfl := Option.some.inj H
           try go_wp2
           have n0_ := Aside0.mk (below_drew1 HB.out)
           clear HB
           have HB := n0_
           clear n0_
           have p330 : 0 ≤ (x5_1 : Int) := of_decide_eq_true (z_7)
           have q330 : x5_1 < (l0.length : Int) := of_decide_eq_true (z_7)
           obtain ⟨ad330, e330, hx330_0, hx330_1, hx330_2, hx330_3, hx330_4, hx330_5⟩ := at_T83 HR0.out x5_1 p330 q330
           have hw330_5 := hx330_5
           have hw330_4 := hx330_4
           have hw330_3 := hx330_3
           have hw330_2 := hx330_2
           have hw330_1 := hx330_1
           have hw330_0 := hx330_0
           cases e330
           replace hx330_0 := pw_cell_below HB.out hx330_0
           replace hx330_1 := pw_cell_below HB.out hx330_1
           replace hx330_2 := pw_cell_below HB.out hx330_2
           replace hx330_3 := pw_cell_below HB.out hx330_3
           replace hx330_4 := pw_cell_below HB.out hx330_4
           replace hx330_5 := pw_cell_below HB.out hx330_5
           replace p330 := eq_true p330
           replace q330 := eq_true q330
           refine start_ (n := 9) (S := fun w' => w'.cell? (ad330.add ((x5_1).toNat * 6)) = some (.string ((rd_T83 l0 x5_1).f0.f0)) ∧ w'.cell? ⟨(ad330.add ((x5_1).toNat * 6)).block, (ad330.add ((x5_1).toNat * 6)).off + 1, none⟩ = some (.int .i64 ((rd_T83 l0 x5_1).f0.f1)) ∧ w'.cell? ⟨(ad330.add ((x5_1).toNat * 6)).block, (ad330.add ((x5_1).toNat * 6)).off + 2, none⟩ = some (.int .i64 ((rd_T83 l0 x5_1).f0.f2)) ∧ w'.cell? ⟨(ad330.add ((x5_1).toNat * 6)).block, (ad330.add ((x5_1).toNat * 6)).off + 3, none⟩ = some (.string ((rd_T83 l0 x5_1).f0.f3)) ∧ w'.cell? ⟨(ad330.add ((x5_1).toNat * 6)).block, (ad330.add ((x5_1).toNat * 6)).off + 4, none⟩ = some (.int .i64 ((rd_T83 l0 x5_1).f0.f4)) ∧ w'.cell? ⟨(ad330.add ((x5_1).toNat * 6)).block, (ad330.add ((x5_1).toNat * 6)).off + 5, none⟩ = some (.int .i64 ((rd_T83 l0 x5_1).f1))) (ds := []) #[F,F,F,F,F,F,F,F,F] (z_0) rfl rfl ⟨(pw_cell_below HB.out hw330_0), (pw_cell_below HB.out hw330_1), (pw_cell_below HB.out hw330_2), (pw_cell_below HB.out hw330_3), (pw_cell_below HB.out hw330_4), (pw_cell_below HB.out hw330_5)⟩ (fun hHeld => ?_); refine with_tabW laws_heldKeptS.tab4 laws_heldKeptS.bits4 (fun HT_ HW_ => ?_)
           generalize wr.drew = w17 at HB hx330_0 hx330_1 hx330_2 hx330_3 hx330_4 hx330_5 hHeld ⊢
           refine pure_ (i := 0) (N := some 12) (v := ?_) (a' := ?_) #[T,F,F,F,F,F,F,F,F] rfl rfl (any_of HT_.out (z_0)) (fun _ _ _ h => h) (Or.inl ⟨z_30, ?_⟩) ?_ ?_
           rotate_left
           ·intro w'
            go_simp
            with_reducible rfl
           rotate_left
           ·simp only [Act.put, List.setIfInBounds_toArray, List.set_cons_zero, List.set_cons_succ, i64_w, i32_w]
            rfl
           refine pure_ (i := 1) (N := some 13) (v := ?_) (a' := ?_) #[T,T,F,F,F,F,F,F,F] rfl rfl (any_of HT_.out (z_0)) (fun _ _ _ h => h) (Or.inl ⟨z_30, ?_⟩) ?_ ?_
           rotate_left
           ·intro w'
            go_simp
            with_reducible rfl
           rotate_left
           ·simp only [Act.put, List.setIfInBounds_toArray, List.set_cons_zero, List.set_cons_succ, i64_w, i32_w]
            rfl
           refine pure_ (i := 2) (N := some 14) (v := ?_) (a' := ?_) #[T,T,T,F,F,F,F,F,F] rfl rfl (any_of HT_.out (z_0)) (fun _ _ _ h => h) (Or.inl ⟨z_30, ?_⟩) ?_ ?_
           rotate_left
           ·intro w'
            go_simp
            with_reducible rfl
           rotate_left
           ·simp only [Act.put, List.setIfInBounds_toArray, List.set_cons_zero, List.set_cons_succ, i64_w, i32_w]
            rfl
           refine pure_ (i := 3) (N := some 15) (v := ?_) (a' := ?_) #[T,T,T,T,F,F,F,F,F] rfl rfl (any_of HT_.out (z_0)) (fun _ _ _ h => h) (Or.inl ⟨z_30, ?_⟩) ?_ ?_
           rotate_left
           ·intro w'
            go_simp
            with_reducible rfl
           rotate_left
           ·simp only [Act.put, List.setIfInBounds_toArray, List.set_cons_zero, List.set_cons_succ, i64_w, i32_w]
            rfl
           refine pure_ (i := 4) (N := some 16) (v := ?_) (a' := ?_) #[T,T,T,T,T,F,F,F,F] rfl rfl (any_of HT_.out (z_0)) (fun _ _ _ h => h) (Or.inl ⟨z_30, ?_⟩) ?_ ?_
           rotate_left
           ·intro w'
            go_simp
            with_reducible rfl
           rotate_left
           ·simp only [Act.put, List.setIfInBounds_toArray, List.set_cons_zero, List.set_cons_succ, i64_w, i32_w]
            rfl
           refine pure_ (i := 6) (N := some 18) (v := ?_) (a' := ?_) #[T,T,T,T,T,F,T,F,F] rfl rfl (any_of HT_.out (z_0)) (fun _ _ _ h => h) (Or.inl ⟨z_30, ?_⟩) ?_ ?_
           rotate_left
           ·intro w'
            go_simp
            with_reducible rfl
           rotate_left
           ·simp only [Act.put, List.setIfInBounds_toArray, List.set_cons_zero, List.set_cons_succ, i64_w, i32_w]
            rfl
           refine take_ (i := 5) (N := some 17) (v := ?_) (a' := ?_) #[T,T,T,T,T,T,T,F,F] rfl rfl (take_ofW HT_.out HW_.out (z_0)) (fun _ _ _ h => h) (Or.inl ⟨z_30, ?_⟩) hHeld ?_ ?_
           rotate_left
           ·rintro w' ⟨s0, s1, s2, s3, s4, s5⟩
            go_simp
            with_reducible rfl
           rotate_left
           ·simp only [Act.put, List.setIfInBounds_toArray, List.set_cons_zero, List.set_cons_succ, i64_w, i32_w]
            rfl
           refine one_ (i := 7) (N := some 19) #[T,T,T,T,T,T,T,T,F] rfl rfl (one_of HT_.out (z_0)) (z_19) (fun K hK => ?_)
           refine goes_ Try.func77 (z_0) rfl #[.int .i64 x1_1] (z_30) rfl rfl (z_8) ?_
           with_reducible refine (laws_markText.calls k1 x1_1 t331 _ A5.out).mono ?_
           rintro e w18 ⟨rfl, hb⟩
           refine ⟨_, rfl, ?_⟩
           have n0_ := Aside0.mk (below_step (z_2) hb)
           clear HB
           have HB := n0_
           clear n0_
           (try clear hb)
           (try clear hb2)
           (try clear hk)
           (try clear hi)
           refine hK.out _ _ ⟨(pw_cell_below HB.out hw330_0), (pw_cell_below HB.out hw330_1), (pw_cell_below HB.out hw330_2), (pw_cell_below HB.out hw330_3), (pw_cell_below HB.out hw330_4), (pw_cell_below HB.out hw330_5)⟩ (fun hHeld => ?_)
           clear hK K
           refine norm_ (a' := ?_) ?_ ?_
           rotate_left
           ·show Act.put _ (some 19) _ = _
            simp only [Act.put, List.setIfInBounds_toArray, List.set_cons_zero, List.set_cons_succ, i64_w, i32_w]
            rfl
           refine pure_ (i := 8) (N := some 20) (v := ?_) (a' := ?_) #[T,T,T,T,T,T,T,T,T] rfl rfl (any_of HT_.out (z_0)) (fun _ _ _ h => h) (Or.inl ⟨z_30, ?_⟩) ?_ ?_
           rotate_left
           ·intro w'
            go_simp
            with_reducible rfl
           rotate_left
           ·simp only [Act.put, List.setIfInBounds_toArray, List.set_cons_zero, List.set_cons_succ, i64_w, i32_w]
            rfl
           refine done_ (done_of HT_.out (z_0)) ?_
           have p332 : 0 ≤ (x5_1 : Int) := of_decide_eq_true (z_7)
           have q332 : x5_1 < (l0.length : Int) := of_decide_eq_true (z_7)
           obtain ⟨ad332, e332, hx332_0, hx332_1, hx332_2, hx332_3, hx332_4, hx332_5⟩ := at_T83 HR0.out x5_1 p332 q332
           obtain rfl : ad330 = ad332 := (by injection e332)
           replace hx332_0 := pw_cell_below HB.out hx332_0
           replace hx332_1 := pw_cell_below HB.out hx332_1
           replace hx332_2 := pw_cell_below HB.out hx332_2
           replace hx332_3 := pw_cell_below HB.out hx332_3
           replace hx332_4 := pw_cell_below HB.out hx332_4
           replace hx332_5 := pw_cell_below HB.out hx332_5
           replace p332 := eq_true p332
           replace q332 := eq_true q332
           have p333 : 0 ≤ (x5_1 : Int) := of_decide_eq_true (z_7)
           have q333 : x5_1 < (l0.length : Int) := of_decide_eq_true (z_7)
           obtain ⟨ad333, e333, hx333_0, hx333_1, hx333_2, hx333_3, hx333_4, hx333_5⟩ := at_T83 HR0.out x5_1 p333 q333
           obtain rfl : ad330 = ad333 := (by injection e333)
           replace hx333_0 := pw_cell_below HB.out hx333_0
           replace hx333_1 := pw_cell_below HB.out hx333_1
           replace hx333_2 := pw_cell_below HB.out hx333_2
           replace hx333_3 := pw_cell_below HB.out hx333_3
           replace hx333_4 := pw_cell_below HB.out hx333_4
           replace hx333_5 := pw_cell_below HB.out hx333_5
           replace p333 := eq_true p333
           replace q333 := eq_true q333
           try go_wp2
           have n0_ := Aside0.mk (below_drew1 HB.out)
           clear HB
           have HB := n0_
           clear n0_
           have p334 : 0 ≤ (x5_1 : Int) := of_decide_eq_true (z_7)
           have q334 : x5_1 < (l0.length : Int) := of_decide_eq_true (z_7)
           obtain ⟨ad334, e334, hx334_0, hx334_1, hx334_2, hx334_3, hx334_4, hx334_5⟩ := at_T83 HR0.out x5_1 p334 q334
           have hw334_5 := hx334_5
           have hw334_4 := hx334_4
           have hw334_3 := hx334_3
           have hw334_2 := hx334_2
           have hw334_1 := hx334_1
           have hw334_0 := hx334_0
           obtain rfl : ad330 = ad334 := (by injection e334)
           replace hx334_0 := pw_cell_below HB.out hx334_0
           replace hx334_1 := pw_cell_below HB.out hx334_1
           replace hx334_2 := pw_cell_below HB.out hx334_2
           replace hx334_3 := pw_cell_below HB.out hx334_3
           replace hx334_4 := pw_cell_below HB.out hx334_4
           replace hx334_5 := pw_cell_below HB.out hx334_5
           replace p334 := eq_true p334
           replace q334 := eq_true q334
           refine start_ (n := 9) (S := fun w' => w'.cell? (ad330.add ((x5_1).toNat * 6)) = some (.string ((rd_T83 l0 x5_1).f0.f0)) ∧ w'.cell? ⟨(ad330.add ((x5_1).toNat * 6)).block, (ad330.add ((x5_1).toNat * 6)).off + 1, none⟩ = some (.int .i64 ((rd_T83 l0 x5_1).f0.f1)) ∧ w'.cell? ⟨(ad330.add ((x5_1).toNat * 6)).block, (ad330.add ((x5_1).toNat * 6)).off + 2, none⟩ = some (.int .i64 ((rd_T83 l0 x5_1).f0.f2)) ∧ w'.cell? ⟨(ad330.add ((x5_1).toNat * 6)).block, (ad330.add ((x5_1).toNat * 6)).off + 3, none⟩ = some (.string ((rd_T83 l0 x5_1).f0.f3)) ∧ w'.cell? ⟨(ad330.add ((x5_1).toNat * 6)).block, (ad330.add ((x5_1).toNat * 6)).off + 4, none⟩ = some (.int .i64 ((rd_T83 l0 x5_1).f0.f4)) ∧ w'.cell? ⟨(ad330.add ((x5_1).toNat * 6)).block, (ad330.add ((x5_1).toNat * 6)).off + 5, none⟩ = some (.int .i64 ((rd_T83 l0 x5_1).f1))) (ds := []) #[F,F,F,F,F,F,F,F,F] (z_0) rfl rfl ⟨(pw_cell_below HB.out hw334_0), (pw_cell_below HB.out hw334_1), (pw_cell_below HB.out hw334_2), (pw_cell_below HB.out hw334_3), (pw_cell_below HB.out hw334_4), (pw_cell_below HB.out hw334_5)⟩ (fun hHeld => ?_); refine with_tabW laws_heldKeptS.tab13 laws_heldKeptS.bits13 (fun HT_ HW_ => ?_)
           generalize w18.drew = w19 at HB hx334_0 hx334_1 hx334_2 hx334_3 hx334_4 hx334_5 hHeld ⊢
           refine pure_ (i := 0) (N := some 43) (v := ?_) (a' := ?_) #[T,F,F,F,F,F,F,F,F] rfl rfl (any_of HT_.out (z_0)) (fun _ _ _ h => h) (Or.inl ⟨z_30, ?_⟩) ?_ ?_
           rotate_left
           ·intro w'
            go_simp
            with_reducible rfl
           rotate_left
           ·simp only [Act.put, List.setIfInBounds_toArray, List.set_cons_zero, List.set_cons_succ, i64_w, i32_w]
            rfl
           refine pure_ (i := 1) (N := some 44) (v := ?_) (a' := ?_) #[T,T,F,F,F,F,F,F,F] rfl rfl (any_of HT_.out (z_0)) (fun _ _ _ h => h) (Or.inl ⟨z_30, ?_⟩) ?_ ?_
           rotate_left
           ·intro w'
            go_simp
            with_reducible rfl
           rotate_left
           ·simp only [Act.put, List.setIfInBounds_toArray, List.set_cons_zero, List.set_cons_succ, i64_w, i32_w]
            rfl
           refine pure_ (i := 2) (N := some 45) (v := ?_) (a' := ?_) #[T,T,T,F,F,F,F,F,F] rfl rfl (any_of HT_.out (z_0)) (fun _ _ _ h => h) (Or.inl ⟨z_30, ?_⟩) ?_ ?_
           rotate_left
           ·intro w'
            go_simp
            with_reducible rfl
           rotate_left
           ·simp only [Act.put, List.setIfInBounds_toArray, List.set_cons_zero, List.set_cons_succ, i64_w, i32_w]
            rfl
           refine pure_ (i := 3) (N := some 46) (v := ?_) (a' := ?_) #[T,T,T,T,F,F,F,F,F] rfl rfl (any_of HT_.out (z_0)) (fun _ _ _ h => h) (Or.inl ⟨z_30, ?_⟩) ?_ ?_
           rotate_left
           ·intro w'
            go_simp
            with_reducible rfl
           rotate_left
           ·simp only [Act.put, List.setIfInBounds_toArray, List.set_cons_zero, List.set_cons_succ, i64_w, i32_w]
            rfl
           refine pure_ (i := 4) (N := some 47) (v := ?_) (a' := ?_) #[T,T,T,T,T,F,F,F,F] rfl rfl (any_of HT_.out (z_0)) (fun _ _ _ h => h) (Or.inl ⟨z_30, ?_⟩) ?_ ?_
           rotate_left
           ·intro w'
            go_simp
            with_reducible rfl
           rotate_left
           ·simp only [Act.put, List.setIfInBounds_toArray, List.set_cons_zero, List.set_cons_succ, i64_w, i32_w]
            rfl
           refine pure_ (i := 6) (N := some 49) (v := ?_) (a' := ?_) #[T,T,T,T,T,F,T,F,F] rfl rfl (any_of HT_.out (z_0)) (fun _ _ _ h => h) (Or.inl ⟨z_30, ?_⟩) ?_ ?_
           rotate_left
           ·intro w'
            go_simp
            with_reducible rfl
           rotate_left
           ·simp only [Act.put, List.setIfInBounds_toArray, List.set_cons_zero, List.set_cons_succ, i64_w, i32_w]
            rfl
           refine take_ (i := 5) (N := some 48) (v := ?_) (a' := ?_) #[T,T,T,T,T,T,T,F,F] rfl rfl (take_ofW HT_.out HW_.out (z_0)) (fun _ _ _ h => h) (Or.inl ⟨z_30, ?_⟩) hHeld ?_ ?_
           rotate_left
           ·rintro w' ⟨s0, s1, s2, s3, s4, s5⟩
            go_simp
            with_reducible rfl
           rotate_left
           ·simp only [Act.put, List.setIfInBounds_toArray, List.set_cons_zero, List.set_cons_succ, i64_w, i32_w]
            rfl
           refine one_ (i := 7) (N := some 50) #[T,T,T,T,T,T,T,T,F] rfl rfl (one_of HT_.out (z_0)) (z_19) (fun K hK => ?_)
           refine goes_ Try.func77 (z_0) rfl #[.int .i64 (wrap64 ((wrap64 ((wrap64 (x1_1 + 1)) + 1)) + 1))] (z_30) rfl rfl (z_8) ?_
           with_reducible refine (laws_markText.calls k1 (wrap64 ((wrap64 ((wrap64 (x1_1 + 1)) + 1)) + 1)) t335 _ A9.out).mono ?_
           rintro e w20 ⟨rfl, hb⟩
           refine ⟨_, rfl, ?_⟩
           have n0_ := Aside0.mk (below_step (z_2) hb)
           clear HB
           have HB := n0_
           clear n0_
           (try clear hb)
           (try clear hb2)
           (try clear hk)
           (try clear hi)
           refine hK.out _ _ ⟨(pw_cell_below HB.out hw334_0), (pw_cell_below HB.out hw334_1), (pw_cell_below HB.out hw334_2), (pw_cell_below HB.out hw334_3), (pw_cell_below HB.out hw334_4), (pw_cell_below HB.out hw334_5)⟩ (fun hHeld => ?_)
           clear hK K
           refine norm_ (a' := ?_) ?_ ?_
           rotate_left
           ·show Act.put _ (some 50) _ = _
            simp only [Act.put, List.setIfInBounds_toArray, List.set_cons_zero, List.set_cons_succ, i64_w, i32_w]
            rfl
           refine pure_ (i := 8) (N := some 51) (v := ?_) (a' := ?_) #[T,T,T,T,T,T,T,T,T] rfl rfl (any_of HT_.out (z_0)) (fun _ _ _ h => h) (Or.inl ⟨z_30, ?_⟩) ?_ ?_
           rotate_left
           ·intro w'
            go_simp
            with_reducible rfl
           rotate_left
           ·simp only [Act.put, List.setIfInBounds_toArray, List.set_cons_zero, List.set_cons_succ, i64_w, i32_w]
            rfl
           refine done_ (done_of HT_.out (z_0)) ?_
           have p336 : 0 ≤ (x5_1 : Int) := of_decide_eq_true (z_7)
           have q336 : x5_1 < (l0.length : Int) := of_decide_eq_true (z_7)
           obtain ⟨ad336, e336, hx336_0, hx336_1, hx336_2, hx336_3, hx336_4, hx336_5⟩ := at_T83 HR0.out x5_1 p336 q336
           obtain rfl : ad330 = ad336 := (by injection e336)
           replace hx336_0 := pw_cell_below HB.out hx336_0
           replace hx336_1 := pw_cell_below HB.out hx336_1
           replace hx336_2 := pw_cell_below HB.out hx336_2
           replace hx336_3 := pw_cell_below HB.out hx336_3
           replace hx336_4 := pw_cell_below HB.out hx336_4
           replace hx336_5 := pw_cell_below HB.out hx336_5
           replace p336 := eq_true p336
           replace q336 := eq_true q336
           have p337 : 0 ≤ (x5_1 : Int) := of_decide_eq_true (z_7)
           have q337 : x5_1 < (l0.length : Int) := of_decide_eq_true (z_7)
           obtain ⟨ad337, e337, hx337_0, hx337_1, hx337_2, hx337_3, hx337_4, hx337_5⟩ := at_T83 HR0.out x5_1 p337 q337
           obtain rfl : ad330 = ad337 := (by injection e337)
           replace hx337_0 := pw_cell_below HB.out hx337_0
           replace hx337_1 := pw_cell_below HB.out hx337_1
           replace hx337_2 := pw_cell_below HB.out hx337_2
           replace hx337_3 := pw_cell_below HB.out hx337_3
           replace hx337_4 := pw_cell_below HB.out hx337_4
           replace hx337_5 := pw_cell_below HB.out hx337_5
           replace p337 := eq_true p337
           replace q337 := eq_true q337
           try go_wp2
           go_ret
           exact ⟨z_4, z_2⟩
         ·rw [if_neg c11] at H
          have c11b0 : (((rd_T83 l0 x5_1).f0.f4) == (wrap64 ((wrap64 ((wrap64 ((wrap64 (x1_1 + 1)) + 1)) + 1)) + 1))) = false := beq_eq_false_iff_ne.mpr c11
          have c11b1 : (((rd_T83 l0 x5_1).f0.f4) != (wrap64 ((wrap64 ((wrap64 ((wrap64 (x1_1 + 1)) + 1)) + 1)) + 1))) = true := bne_iff_ne.mpr c11
          obtain rfl := Option.some.inj H
          try go_wp2
          have n0_ := Aside0.mk (below_drew1 HB.out)
          clear HB
          have HB := n0_
          clear n0_
          have p330 : 0 ≤ (x5_1 : Int) := of_decide_eq_true (z_7)
          have q330 : x5_1 < (l0.length : Int) := of_decide_eq_true (z_7)
          obtain ⟨ad330, e330, hx330_0, hx330_1, hx330_2, hx330_3, hx330_4, hx330_5⟩ := at_T83 HR0.out x5_1 p330 q330
          have hw330_5 := hx330_5
          have hw330_4 := hx330_4
          have hw330_3 := hx330_3
          have hw330_2 := hx330_2
          have hw330_1 := hx330_1
          have hw330_0 := hx330_0
          cases e330
          replace hx330_0 := pw_cell_below HB.out hx330_0
          replace hx330_1 := pw_cell_below HB.out hx330_1
          replace hx330_2 := pw_cell_below HB.out hx330_2
          replace hx330_3 := pw_cell_below HB.out hx330_3
          replace hx330_4 := pw_cell_below HB.out hx330_4
          replace hx330_5 := pw_cell_below HB.out hx330_5
          replace p330 := eq_true p330
          replace q330 := eq_true q330
          refine start_ (n := 9) (S := fun w' => w'.cell? (ad330.add ((x5_1).toNat * 6)) = some (.string ((rd_T83 l0 x5_1).f0.f0)) ∧ w'.cell? ⟨(ad330.add ((x5_1).toNat * 6)).block, (ad330.add ((x5_1).toNat * 6)).off + 1, none⟩ = some (.int .i64 ((rd_T83 l0 x5_1).f0.f1)) ∧ w'.cell? ⟨(ad330.add ((x5_1).toNat * 6)).block, (ad330.add ((x5_1).toNat * 6)).off + 2, none⟩ = some (.int .i64 ((rd_T83 l0 x5_1).f0.f2)) ∧ w'.cell? ⟨(ad330.add ((x5_1).toNat * 6)).block, (ad330.add ((x5_1).toNat * 6)).off + 3, none⟩ = some (.string ((rd_T83 l0 x5_1).f0.f3)) ∧ w'.cell? ⟨(ad330.add ((x5_1).toNat * 6)).block, (ad330.add ((x5_1).toNat * 6)).off + 4, none⟩ = some (.int .i64 ((rd_T83 l0 x5_1).f0.f4)) ∧ w'.cell? ⟨(ad330.add ((x5_1).toNat * 6)).block, (ad330.add ((x5_1).toNat * 6)).off + 5, none⟩ = some (.int .i64 ((rd_T83 l0 x5_1).f1))) (ds := []) #[F,F,F,F,F,F,F,F,F] (z_0) rfl rfl ⟨(pw_cell_below HB.out hw330_0), (pw_cell_below HB.out hw330_1), (pw_cell_below HB.out hw330_2), (pw_cell_below HB.out hw330_3), (pw_cell_below HB.out hw330_4), (pw_cell_below HB.out hw330_5)⟩ (fun hHeld => ?_); refine with_tabW laws_heldKeptS.tab4 laws_heldKeptS.bits4 (fun HT_ HW_ => ?_)
          generalize wr.drew = w21 at HB hx330_0 hx330_1 hx330_2 hx330_3 hx330_4 hx330_5 hHeld ⊢
          refine pure_ (i := 0) (N := some 12) (v := ?_) (a' := ?_) #[T,F,F,F,F,F,F,F,F] rfl rfl (any_of HT_.out (z_0)) (fun _ _ _ h => h) (Or.inl ⟨z_30, ?_⟩) ?_ ?_
          rotate_left
          ·intro w'
           go_simp
           with_reducible rfl
          rotate_left
          ·simp only [Act.put, List.setIfInBounds_toArray, List.set_cons_zero, List.set_cons_succ, i64_w, i32_w]
           rfl
          refine pure_ (i := 1) (N := some 13) (v := ?_) (a' := ?_) #[T,T,F,F,F,F,F,F,F] rfl rfl (any_of HT_.out (z_0)) (fun _ _ _ h => h) (Or.inl ⟨z_30, ?_⟩) ?_ ?_
          rotate_left
          ·intro w'
           go_simp
           with_reducible rfl
          rotate_left
          ·simp only [Act.put, List.setIfInBounds_toArray, List.set_cons_zero, List.set_cons_succ, i64_w, i32_w]
           rfl
          refine pure_ (i := 2) (N := some 14) (v := ?_) (a' := ?_) #[T,T,T,F,F,F,F,F,F] rfl rfl (any_of HT_.out (z_0)) (fun _ _ _ h => h) (Or.inl ⟨z_30, ?_⟩) ?_ ?_
          rotate_left
          ·intro w'
           go_simp
           with_reducible rfl
          rotate_left
          ·simp only [Act.put, List.setIfInBounds_toArray, List.set_cons_zero, List.set_cons_succ, i64_w, i32_w]
           rfl
          refine pure_ (i := 3) (N := some 15) (v := ?_) (a' := ?_) #[T,T,T,T,F,F,F,F,F] rfl rfl (any_of HT_.out (z_0)) (fun _ _ _ h => h) (Or.inl ⟨z_30, ?_⟩) ?_ ?_
          rotate_left
          ·intro w'
           go_simp
           with_reducible rfl
          rotate_left
          ·simp only [Act.put, List.setIfInBounds_toArray, List.set_cons_zero, List.set_cons_succ, i64_w, i32_w]
           rfl
          refine pure_ (i := 4) (N := some 16) (v := ?_) (a' := ?_) #[T,T,T,T,T,F,F,F,F] rfl rfl (any_of HT_.out (z_0)) (fun _ _ _ h => h) (Or.inl ⟨z_30, ?_⟩) ?_ ?_
          rotate_left
          ·intro w'
           go_simp
           with_reducible rfl
          rotate_left
          ·simp only [Act.put, List.setIfInBounds_toArray, List.set_cons_zero, List.set_cons_succ, i64_w, i32_w]
           rfl
          refine pure_ (i := 6) (N := some 18) (v := ?_) (a' := ?_) #[T,T,T,T,T,F,T,F,F] rfl rfl (any_of HT_.out (z_0)) (fun _ _ _ h => h) (Or.inl ⟨z_30, ?_⟩) ?_ ?_
          rotate_left
          ·intro w'
           go_simp
           with_reducible rfl
          rotate_left
          ·simp only [Act.put, List.setIfInBounds_toArray, List.set_cons_zero, List.set_cons_succ, i64_w, i32_w]
           rfl
          refine take_ (i := 5) (N := some 17) (v := ?_) (a' := ?_) #[T,T,T,T,T,T,T,F,F] rfl rfl (take_ofW HT_.out HW_.out (z_0)) (fun _ _ _ h => h) (Or.inl ⟨z_30, ?_⟩) hHeld ?_ ?_
          rotate_left
          ·rintro w' ⟨s0, s1, s2, s3, s4, s5⟩
           go_simp
           with_reducible rfl
          rotate_left
          ·simp only [Act.put, List.setIfInBounds_toArray, List.set_cons_zero, List.set_cons_succ, i64_w, i32_w]
           rfl
          refine one_ (i := 7) (N := some 19) #[T,T,T,T,T,T,T,T,F] rfl rfl (one_of HT_.out (z_0)) (z_19) (fun K hK => ?_)
          refine goes_ Try.func77 (z_0) rfl #[.int .i64 x1_1] (z_30) rfl rfl (z_8) ?_
          with_reducible refine (laws_markText.calls k1 x1_1 t331 _ A5.out).mono ?_
          rintro e w22 ⟨rfl, hb⟩
          refine ⟨_, rfl, ?_⟩
          have n0_ := Aside0.mk (below_step (z_2) hb)
          clear HB
          have HB := n0_
          clear n0_
          (try clear hb)
          (try clear hb2)
          (try clear hk)
          (try clear hi)
          refine hK.out _ _ ⟨(pw_cell_below HB.out hw330_0), (pw_cell_below HB.out hw330_1), (pw_cell_below HB.out hw330_2), (pw_cell_below HB.out hw330_3), (pw_cell_below HB.out hw330_4), (pw_cell_below HB.out hw330_5)⟩ (fun hHeld => ?_)
          clear hK K
          refine norm_ (a' := ?_) ?_ ?_
          rotate_left
          ·show Act.put _ (some 19) _ = _
           simp only [Act.put, List.setIfInBounds_toArray, List.set_cons_zero, List.set_cons_succ, i64_w, i32_w]
           rfl
          refine pure_ (i := 8) (N := some 20) (v := ?_) (a' := ?_) #[T,T,T,T,T,T,T,T,T] rfl rfl (any_of HT_.out (z_0)) (fun _ _ _ h => h) (Or.inl ⟨z_30, ?_⟩) ?_ ?_
          rotate_left
          ·intro w'
           go_simp
           with_reducible rfl
          rotate_left
          ·simp only [Act.put, List.setIfInBounds_toArray, List.set_cons_zero, List.set_cons_succ, i64_w, i32_w]
           rfl
          refine done_ (done_of HT_.out (z_0)) ?_
          have p332 : 0 ≤ (x5_1 : Int) := of_decide_eq_true (z_7)
          have q332 : x5_1 < (l0.length : Int) := of_decide_eq_true (z_7)
          obtain ⟨ad332, e332, hx332_0, hx332_1, hx332_2, hx332_3, hx332_4, hx332_5⟩ := at_T83 HR0.out x5_1 p332 q332
          obtain rfl : ad330 = ad332 := (by injection e332)
          replace hx332_0 := pw_cell_below HB.out hx332_0
          replace hx332_1 := pw_cell_below HB.out hx332_1
          replace hx332_2 := pw_cell_below HB.out hx332_2
          replace hx332_3 := pw_cell_below HB.out hx332_3
          replace hx332_4 := pw_cell_below HB.out hx332_4
          replace hx332_5 := pw_cell_below HB.out hx332_5
          replace p332 := eq_true p332
          replace q332 := eq_true q332
          have p333 : 0 ≤ (x5_1 : Int) := of_decide_eq_true (z_7)
          have q333 : x5_1 < (l0.length : Int) := of_decide_eq_true (z_7)
          obtain ⟨ad333, e333, hx333_0, hx333_1, hx333_2, hx333_3, hx333_4, hx333_5⟩ := at_T83 HR0.out x5_1 p333 q333
          obtain rfl : ad330 = ad333 := (by injection e333)
          replace hx333_0 := pw_cell_below HB.out hx333_0
          replace hx333_1 := pw_cell_below HB.out hx333_1
          replace hx333_2 := pw_cell_below HB.out hx333_2
          replace hx333_3 := pw_cell_below HB.out hx333_3
          replace hx333_4 := pw_cell_below HB.out hx333_4
          replace hx333_5 := pw_cell_below HB.out hx333_5
          replace p333 := eq_true p333
          replace q333 := eq_true q333
          try go_wp2
          have n0_ := Aside0.mk (below_drew1 HB.out)
          clear HB
          have HB := n0_
          clear n0_
          have p334 : 0 ≤ (x5_1 : Int) := of_decide_eq_true (z_7)
          have q334 : x5_1 < (l0.length : Int) := of_decide_eq_true (z_7)
          obtain ⟨ad334, e334, hx334_0, hx334_1, hx334_2, hx334_3, hx334_4, hx334_5⟩ := at_T83 HR0.out x5_1 p334 q334
          have hw334_5 := hx334_5
          have hw334_4 := hx334_4
          have hw334_3 := hx334_3
          have hw334_2 := hx334_2
          have hw334_1 := hx334_1
          have hw334_0 := hx334_0
          obtain rfl : ad330 = ad334 := (by injection e334)
          replace hx334_0 := pw_cell_below HB.out hx334_0
          replace hx334_1 := pw_cell_below HB.out hx334_1
          replace hx334_2 := pw_cell_below HB.out hx334_2
          replace hx334_3 := pw_cell_below HB.out hx334_3
          replace hx334_4 := pw_cell_below HB.out hx334_4
          replace hx334_5 := pw_cell_below HB.out hx334_5
          replace p334 := eq_true p334
          replace q334 := eq_true q334
          refine start_ (n := 9) (S := fun w' => w'.cell? (ad330.add ((x5_1).toNat * 6)) = some (.string ((rd_T83 l0 x5_1).f0.f0)) ∧ w'.cell? ⟨(ad330.add ((x5_1).toNat * 6)).block, (ad330.add ((x5_1).toNat * 6)).off + 1, none⟩ = some (.int .i64 ((rd_T83 l0 x5_1).f0.f1)) ∧ w'.cell? ⟨(ad330.add ((x5_1).toNat * 6)).block, (ad330.add ((x5_1).toNat * 6)).off + 2, none⟩ = some (.int .i64 ((rd_T83 l0 x5_1).f0.f2)) ∧ w'.cell? ⟨(ad330.add ((x5_1).toNat * 6)).block, (ad330.add ((x5_1).toNat * 6)).off + 3, none⟩ = some (.string ((rd_T83 l0 x5_1).f0.f3)) ∧ w'.cell? ⟨(ad330.add ((x5_1).toNat * 6)).block, (ad330.add ((x5_1).toNat * 6)).off + 4, none⟩ = some (.int .i64 ((rd_T83 l0 x5_1).f0.f4)) ∧ w'.cell? ⟨(ad330.add ((x5_1).toNat * 6)).block, (ad330.add ((x5_1).toNat * 6)).off + 5, none⟩ = some (.int .i64 ((rd_T83 l0 x5_1).f1))) (ds := []) #[F,F,F,F,F,F,F,F,F] (z_0) rfl rfl ⟨(pw_cell_below HB.out hw334_0), (pw_cell_below HB.out hw334_1), (pw_cell_below HB.out hw334_2), (pw_cell_below HB.out hw334_3), (pw_cell_below HB.out hw334_4), (pw_cell_below HB.out hw334_5)⟩ (fun hHeld => ?_); refine with_tabW laws_heldKeptS.tab13 laws_heldKeptS.bits13 (fun HT_ HW_ => ?_)
          generalize w22.drew = w23 at HB hx334_0 hx334_1 hx334_2 hx334_3 hx334_4 hx334_5 hHeld ⊢
          refine pure_ (i := 0) (N := some 43) (v := ?_) (a' := ?_) #[T,F,F,F,F,F,F,F,F] rfl rfl (any_of HT_.out (z_0)) (fun _ _ _ h => h) (Or.inl ⟨z_30, ?_⟩) ?_ ?_
          rotate_left
          ·intro w'
           go_simp
           with_reducible rfl
          rotate_left
          ·simp only [Act.put, List.setIfInBounds_toArray, List.set_cons_zero, List.set_cons_succ, i64_w, i32_w]
           rfl
          refine pure_ (i := 1) (N := some 44) (v := ?_) (a' := ?_) #[T,T,F,F,F,F,F,F,F] rfl rfl (any_of HT_.out (z_0)) (fun _ _ _ h => h) (Or.inl ⟨z_30, ?_⟩) ?_ ?_
          rotate_left
          ·intro w'
           go_simp
           with_reducible rfl
          rotate_left
          ·simp only [Act.put, List.setIfInBounds_toArray, List.set_cons_zero, List.set_cons_succ, i64_w, i32_w]
           rfl
          refine pure_ (i := 2) (N := some 45) (v := ?_) (a' := ?_) #[T,T,T,F,F,F,F,F,F] rfl rfl (any_of HT_.out (z_0)) (fun _ _ _ h => h) (Or.inl ⟨z_30, ?_⟩) ?_ ?_
          rotate_left
          ·intro w'
           go_simp
           with_reducible rfl
          rotate_left
          ·simp only [Act.put, List.setIfInBounds_toArray, List.set_cons_zero, List.set_cons_succ, i64_w, i32_w]
           rfl
          refine pure_ (i := 3) (N := some 46) (v := ?_) (a' := ?_) #[T,T,T,T,F,F,F,F,F] rfl rfl (any_of HT_.out (z_0)) (fun _ _ _ h => h) (Or.inl ⟨z_30, ?_⟩) ?_ ?_
          rotate_left
          ·intro w'
           go_simp
           with_reducible rfl
          rotate_left
          ·simp only [Act.put, List.setIfInBounds_toArray, List.set_cons_zero, List.set_cons_succ, i64_w, i32_w]
           rfl
          refine pure_ (i := 4) (N := some 47) (v := ?_) (a' := ?_) #[T,T,T,T,T,F,F,F,F] rfl rfl (any_of HT_.out (z_0)) (fun _ _ _ h => h) (Or.inl ⟨z_30, ?_⟩) ?_ ?_
          rotate_left
          ·intro w'
           go_simp
           with_reducible rfl
          rotate_left
          ·simp only [Act.put, List.setIfInBounds_toArray, List.set_cons_zero, List.set_cons_succ, i64_w, i32_w]
           rfl
          refine pure_ (i := 6) (N := some 49) (v := ?_) (a' := ?_) #[T,T,T,T,T,F,T,F,F] rfl rfl (any_of HT_.out (z_0)) (fun _ _ _ h => h) (Or.inl ⟨z_30, ?_⟩) ?_ ?_
          rotate_left
          ·intro w'
           go_simp
           with_reducible rfl
          rotate_left
          ·simp only [Act.put, List.setIfInBounds_toArray, List.set_cons_zero, List.set_cons_succ, i64_w, i32_w]
           rfl
          refine take_ (i := 5) (N := some 48) (v := ?_) (a' := ?_) #[T,T,T,T,T,T,T,F,F] rfl rfl (take_ofW HT_.out HW_.out (z_0)) (fun _ _ _ h => h) (Or.inl ⟨z_30, ?_⟩) hHeld ?_ ?_
          rotate_left
          ·rintro w' ⟨s0, s1, s2, s3, s4, s5⟩
           go_simp
           with_reducible rfl
          rotate_left
          ·simp only [Act.put, List.setIfInBounds_toArray, List.set_cons_zero, List.set_cons_succ, i64_w, i32_w]
           rfl
          refine one_ (i := 7) (N := some 50) #[T,T,T,T,T,T,T,T,F] rfl rfl (one_of HT_.out (z_0)) (z_19) (fun K hK => ?_)
          refine goes_ Try.func77 (z_0) rfl #[.int .i64 (wrap64 ((wrap64 ((wrap64 (x1_1 + 1)) + 1)) + 1))] (z_30) rfl rfl (z_8) ?_
          with_reducible refine (laws_markText.calls k1 (wrap64 ((wrap64 ((wrap64 (x1_1 + 1)) + 1)) + 1)) t335 _ A9.out).mono ?_
          rintro e w24 ⟨rfl, hb⟩
          refine ⟨_, rfl, ?_⟩
          have n0_ := Aside0.mk (below_step (z_2) hb)
          clear HB
          have HB := n0_
          clear n0_
          (try clear hb)
          (try clear hb2)
          (try clear hk)
          (try clear hi)
          refine hK.out _ _ ⟨(pw_cell_below HB.out hw334_0), (pw_cell_below HB.out hw334_1), (pw_cell_below HB.out hw334_2), (pw_cell_below HB.out hw334_3), (pw_cell_below HB.out hw334_4), (pw_cell_below HB.out hw334_5)⟩ (fun hHeld => ?_)
          clear hK K
          refine norm_ (a' := ?_) ?_ ?_
          rotate_left
          ·show Act.put _ (some 50) _ = _
           simp only [Act.put, List.setIfInBounds_toArray, List.set_cons_zero, List.set_cons_succ, i64_w, i32_w]
           rfl
          refine pure_ (i := 8) (N := some 51) (v := ?_) (a' := ?_) #[T,T,T,T,T,T,T,T,T] rfl rfl (any_of HT_.out (z_0)) (fun _ _ _ h => h) (Or.inl ⟨z_30, ?_⟩) ?_ ?_
          rotate_left
          ·intro w'
           go_simp
           with_reducible rfl
          rotate_left
          ·simp only [Act.put, List.setIfInBounds_toArray, List.set_cons_zero, List.set_cons_succ, i64_w, i32_w]
           rfl
          refine done_ (done_of HT_.out (z_0)) ?_
          have p336 : 0 ≤ (x5_1 : Int) := of_decide_eq_true (z_7)
          have q336 : x5_1 < (l0.length : Int) := of_decide_eq_true (z_7)
          obtain ⟨ad336, e336, hx336_0, hx336_1, hx336_2, hx336_3, hx336_4, hx336_5⟩ := at_T83 HR0.out x5_1 p336 q336
          obtain rfl : ad330 = ad336 := (by injection e336)
          replace hx336_0 := pw_cell_below HB.out hx336_0
          replace hx336_1 := pw_cell_below HB.out hx336_1
          replace hx336_2 := pw_cell_below HB.out hx336_2
          replace hx336_3 := pw_cell_below HB.out hx336_3
          replace hx336_4 := pw_cell_below HB.out hx336_4
          replace hx336_5 := pw_cell_below HB.out hx336_5
          replace p336 := eq_true p336
          replace q336 := eq_true q336
          try go_wp2
          go_ret
          exact ⟨z_4, z_2⟩
        ·rw [if_neg c10] at H
         have c10b0 : (((rd_T83 l0 x5_1).f0.f3).toList == t335.toList) = false := beq_eq_false_iff_ne.mpr c10
         have c10b1 : (((rd_T83 l0 x5_1).f0.f3).toList != t335.toList) = true := bne_iff_ne.mpr c10
         obtain rfl := Option.some.inj H
         try go_wp2
         have n0_ := Aside0.mk (below_drew1 HB.out)
         clear HB
         have HB := n0_
         clear n0_
         have p330 : 0 ≤ (x5_1 : Int) := of_decide_eq_true (z_7)
         have q330 : x5_1 < (l0.length : Int) := of_decide_eq_true (z_7)
         obtain ⟨ad330, e330, hx330_0, hx330_1, hx330_2, hx330_3, hx330_4, hx330_5⟩ := at_T83 HR0.out x5_1 p330 q330
         have hw330_5 := hx330_5
         have hw330_4 := hx330_4
         have hw330_3 := hx330_3
         have hw330_2 := hx330_2
         have hw330_1 := hx330_1
         have hw330_0 := hx330_0
         cases e330
         replace hx330_0 := pw_cell_below HB.out hx330_0
         replace hx330_1 := pw_cell_below HB.out hx330_1
         replace hx330_2 := pw_cell_below HB.out hx330_2
         replace hx330_3 := pw_cell_below HB.out hx330_3
         replace hx330_4 := pw_cell_below HB.out hx330_4
         replace hx330_5 := pw_cell_below HB.out hx330_5
         replace p330 := eq_true p330
         replace q330 := eq_true q330
         refine start_ (n := 9) (S := fun w' => w'.cell? (ad330.add ((x5_1).toNat * 6)) = some (.string ((rd_T83 l0 x5_1).f0.f0)) ∧ w'.cell? ⟨(ad330.add ((x5_1).toNat * 6)).block, (ad330.add ((x5_1).toNat * 6)).off + 1, none⟩ = some (.int .i64 ((rd_T83 l0 x5_1).f0.f1)) ∧ w'.cell? ⟨(ad330.add ((x5_1).toNat * 6)).block, (ad330.add ((x5_1).toNat * 6)).off + 2, none⟩ = some (.int .i64 ((rd_T83 l0 x5_1).f0.f2)) ∧ w'.cell? ⟨(ad330.add ((x5_1).toNat * 6)).block, (ad330.add ((x5_1).toNat * 6)).off + 3, none⟩ = some (.string ((rd_T83 l0 x5_1).f0.f3)) ∧ w'.cell? ⟨(ad330.add ((x5_1).toNat * 6)).block, (ad330.add ((x5_1).toNat * 6)).off + 4, none⟩ = some (.int .i64 ((rd_T83 l0 x5_1).f0.f4)) ∧ w'.cell? ⟨(ad330.add ((x5_1).toNat * 6)).block, (ad330.add ((x5_1).toNat * 6)).off + 5, none⟩ = some (.int .i64 ((rd_T83 l0 x5_1).f1))) (ds := []) #[F,F,F,F,F,F,F,F,F] (z_0) rfl rfl ⟨(pw_cell_below HB.out hw330_0), (pw_cell_below HB.out hw330_1), (pw_cell_below HB.out hw330_2), (pw_cell_below HB.out hw330_3), (pw_cell_below HB.out hw330_4), (pw_cell_below HB.out hw330_5)⟩ (fun hHeld => ?_); refine with_tabW laws_heldKeptS.tab4 laws_heldKeptS.bits4 (fun HT_ HW_ => ?_)
         generalize wr.drew = w25 at HB hx330_0 hx330_1 hx330_2 hx330_3 hx330_4 hx330_5 hHeld ⊢
         refine pure_ (i := 0) (N := some 12) (v := ?_) (a' := ?_) #[T,F,F,F,F,F,F,F,F] rfl rfl (any_of HT_.out (z_0)) (fun _ _ _ h => h) (Or.inl ⟨z_30, ?_⟩) ?_ ?_
         rotate_left
         ·intro w'
          go_simp
          with_reducible rfl
         rotate_left
         ·simp only [Act.put, List.setIfInBounds_toArray, List.set_cons_zero, List.set_cons_succ, i64_w, i32_w]
          rfl
         refine pure_ (i := 1) (N := some 13) (v := ?_) (a' := ?_) #[T,T,F,F,F,F,F,F,F] rfl rfl (any_of HT_.out (z_0)) (fun _ _ _ h => h) (Or.inl ⟨z_30, ?_⟩) ?_ ?_
         rotate_left
         ·intro w'
          go_simp
          with_reducible rfl
         rotate_left
         ·simp only [Act.put, List.setIfInBounds_toArray, List.set_cons_zero, List.set_cons_succ, i64_w, i32_w]
          rfl
         refine pure_ (i := 2) (N := some 14) (v := ?_) (a' := ?_) #[T,T,T,F,F,F,F,F,F] rfl rfl (any_of HT_.out (z_0)) (fun _ _ _ h => h) (Or.inl ⟨z_30, ?_⟩) ?_ ?_
         rotate_left
         ·intro w'
          go_simp
          with_reducible rfl
         rotate_left
         ·simp only [Act.put, List.setIfInBounds_toArray, List.set_cons_zero, List.set_cons_succ, i64_w, i32_w]
          rfl
         refine pure_ (i := 3) (N := some 15) (v := ?_) (a' := ?_) #[T,T,T,T,F,F,F,F,F] rfl rfl (any_of HT_.out (z_0)) (fun _ _ _ h => h) (Or.inl ⟨z_30, ?_⟩) ?_ ?_
         rotate_left
         ·intro w'
          go_simp
          with_reducible rfl
         rotate_left
         ·simp only [Act.put, List.setIfInBounds_toArray, List.set_cons_zero, List.set_cons_succ, i64_w, i32_w]
          rfl
         refine pure_ (i := 4) (N := some 16) (v := ?_) (a' := ?_) #[T,T,T,T,T,F,F,F,F] rfl rfl (any_of HT_.out (z_0)) (fun _ _ _ h => h) (Or.inl ⟨z_30, ?_⟩) ?_ ?_
         rotate_left
         ·intro w'
          go_simp
          with_reducible rfl
         rotate_left
         ·simp only [Act.put, List.setIfInBounds_toArray, List.set_cons_zero, List.set_cons_succ, i64_w, i32_w]
          rfl
         refine pure_ (i := 6) (N := some 18) (v := ?_) (a' := ?_) #[T,T,T,T,T,F,T,F,F] rfl rfl (any_of HT_.out (z_0)) (fun _ _ _ h => h) (Or.inl ⟨z_30, ?_⟩) ?_ ?_
         rotate_left
         ·intro w'
          go_simp
          with_reducible rfl
         rotate_left
         ·simp only [Act.put, List.setIfInBounds_toArray, List.set_cons_zero, List.set_cons_succ, i64_w, i32_w]
          rfl
         refine take_ (i := 5) (N := some 17) (v := ?_) (a' := ?_) #[T,T,T,T,T,T,T,F,F] rfl rfl (take_ofW HT_.out HW_.out (z_0)) (fun _ _ _ h => h) (Or.inl ⟨z_30, ?_⟩) hHeld ?_ ?_
         rotate_left
         ·rintro w' ⟨s0, s1, s2, s3, s4, s5⟩
          go_simp
          with_reducible rfl
         rotate_left
         ·simp only [Act.put, List.setIfInBounds_toArray, List.set_cons_zero, List.set_cons_succ, i64_w, i32_w]
          rfl
         refine one_ (i := 7) (N := some 19) #[T,T,T,T,T,T,T,T,F] rfl rfl (one_of HT_.out (z_0)) (z_19) (fun K hK => ?_)
         refine goes_ Try.func77 (z_0) rfl #[.int .i64 x1_1] (z_30) rfl rfl (z_8) ?_
         with_reducible refine (laws_markText.calls k1 x1_1 t331 _ A5.out).mono ?_
         rintro e w26 ⟨rfl, hb⟩
         refine ⟨_, rfl, ?_⟩
         have n0_ := Aside0.mk (below_step (z_2) hb)
         clear HB
         have HB := n0_
         clear n0_
         (try clear hb)
         (try clear hb2)
         (try clear hk)
         (try clear hi)
         refine hK.out _ _ ⟨(pw_cell_below HB.out hw330_0), (pw_cell_below HB.out hw330_1), (pw_cell_below HB.out hw330_2), (pw_cell_below HB.out hw330_3), (pw_cell_below HB.out hw330_4), (pw_cell_below HB.out hw330_5)⟩ (fun hHeld => ?_)
         clear hK K
         refine norm_ (a' := ?_) ?_ ?_
         rotate_left
         ·show Act.put _ (some 19) _ = _
          simp only [Act.put, List.setIfInBounds_toArray, List.set_cons_zero, List.set_cons_succ, i64_w, i32_w]
          rfl
         refine pure_ (i := 8) (N := some 20) (v := ?_) (a' := ?_) #[T,T,T,T,T,T,T,T,T] rfl rfl (any_of HT_.out (z_0)) (fun _ _ _ h => h) (Or.inl ⟨z_30, ?_⟩) ?_ ?_
         rotate_left
         ·intro w'
          go_simp
          with_reducible rfl
         rotate_left
         ·simp only [Act.put, List.setIfInBounds_toArray, List.set_cons_zero, List.set_cons_succ, i64_w, i32_w]
          rfl
         refine done_ (done_of HT_.out (z_0)) ?_
         have p332 : 0 ≤ (x5_1 : Int) := of_decide_eq_true (z_7)
         have q332 : x5_1 < (l0.length : Int) := of_decide_eq_true (z_7)
         obtain ⟨ad332, e332, hx332_0, hx332_1, hx332_2, hx332_3, hx332_4, hx332_5⟩ := at_T83 HR0.out x5_1 p332 q332
         obtain rfl : ad330 = ad332 := (by injection e332)
         replace hx332_0 := pw_cell_below HB.out hx332_0
         replace hx332_1 := pw_cell_below HB.out hx332_1
         replace hx332_2 := pw_cell_below HB.out hx332_2
         replace hx332_3 := pw_cell_below HB.out hx332_3
         replace hx332_4 := pw_cell_below HB.out hx332_4
         replace hx332_5 := pw_cell_below HB.out hx332_5
         replace p332 := eq_true p332
         replace q332 := eq_true q332
         have p333 : 0 ≤ (x5_1 : Int) := of_decide_eq_true (z_7)
         have q333 : x5_1 < (l0.length : Int) := of_decide_eq_true (z_7)
         obtain ⟨ad333, e333, hx333_0, hx333_1, hx333_2, hx333_3, hx333_4, hx333_5⟩ := at_T83 HR0.out x5_1 p333 q333
         obtain rfl : ad330 = ad333 := (by injection e333)
         replace hx333_0 := pw_cell_below HB.out hx333_0
         replace hx333_1 := pw_cell_below HB.out hx333_1
         replace hx333_2 := pw_cell_below HB.out hx333_2
         replace hx333_3 := pw_cell_below HB.out hx333_3
         replace hx333_4 := pw_cell_below HB.out hx333_4
         replace hx333_5 := pw_cell_below HB.out hx333_5
         replace p333 := eq_true p333
         replace q333 := eq_true q333
         try go_wp2
         have n0_ := Aside0.mk (below_drew1 HB.out)
         clear HB
         have HB := n0_
         clear n0_
         have p334 : 0 ≤ (x5_1 : Int) := of_decide_eq_true (z_7)
         have q334 : x5_1 < (l0.length : Int) := of_decide_eq_true (z_7)
         obtain ⟨ad334, e334, hx334_0, hx334_1, hx334_2, hx334_3, hx334_4, hx334_5⟩ := at_T83 HR0.out x5_1 p334 q334
         have hw334_5 := hx334_5
         have hw334_4 := hx334_4
         have hw334_3 := hx334_3
         have hw334_2 := hx334_2
         have hw334_1 := hx334_1
         have hw334_0 := hx334_0
         obtain rfl : ad330 = ad334 := (by injection e334)
         replace hx334_0 := pw_cell_below HB.out hx334_0
         replace hx334_1 := pw_cell_below HB.out hx334_1
         replace hx334_2 := pw_cell_below HB.out hx334_2
         replace hx334_3 := pw_cell_below HB.out hx334_3
         replace hx334_4 := pw_cell_below HB.out hx334_4
         replace hx334_5 := pw_cell_below HB.out hx334_5
         replace p334 := eq_true p334
         replace q334 := eq_true q334
         refine start_ (n := 9) (S := fun w' => w'.cell? (ad330.add ((x5_1).toNat * 6)) = some (.string ((rd_T83 l0 x5_1).f0.f0)) ∧ w'.cell? ⟨(ad330.add ((x5_1).toNat * 6)).block, (ad330.add ((x5_1).toNat * 6)).off + 1, none⟩ = some (.int .i64 ((rd_T83 l0 x5_1).f0.f1)) ∧ w'.cell? ⟨(ad330.add ((x5_1).toNat * 6)).block, (ad330.add ((x5_1).toNat * 6)).off + 2, none⟩ = some (.int .i64 ((rd_T83 l0 x5_1).f0.f2)) ∧ w'.cell? ⟨(ad330.add ((x5_1).toNat * 6)).block, (ad330.add ((x5_1).toNat * 6)).off + 3, none⟩ = some (.string ((rd_T83 l0 x5_1).f0.f3)) ∧ w'.cell? ⟨(ad330.add ((x5_1).toNat * 6)).block, (ad330.add ((x5_1).toNat * 6)).off + 4, none⟩ = some (.int .i64 ((rd_T83 l0 x5_1).f0.f4)) ∧ w'.cell? ⟨(ad330.add ((x5_1).toNat * 6)).block, (ad330.add ((x5_1).toNat * 6)).off + 5, none⟩ = some (.int .i64 ((rd_T83 l0 x5_1).f1))) (ds := []) #[F,F,F,F,F,F,F,F,F] (z_0) rfl rfl ⟨(pw_cell_below HB.out hw334_0), (pw_cell_below HB.out hw334_1), (pw_cell_below HB.out hw334_2), (pw_cell_below HB.out hw334_3), (pw_cell_below HB.out hw334_4), (pw_cell_below HB.out hw334_5)⟩ (fun hHeld => ?_); refine with_tabW laws_heldKeptS.tab13 laws_heldKeptS.bits13 (fun HT_ HW_ => ?_)
         generalize w26.drew = w27 at HB hx334_0 hx334_1 hx334_2 hx334_3 hx334_4 hx334_5 hHeld ⊢
         refine pure_ (i := 0) (N := some 43) (v := ?_) (a' := ?_) #[T,F,F,F,F,F,F,F,F] rfl rfl (any_of HT_.out (z_0)) (fun _ _ _ h => h) (Or.inl ⟨z_30, ?_⟩) ?_ ?_
         rotate_left
         ·intro w'
          go_simp
          with_reducible rfl
         rotate_left
         ·simp only [Act.put, List.setIfInBounds_toArray, List.set_cons_zero, List.set_cons_succ, i64_w, i32_w]
          rfl
         refine pure_ (i := 1) (N := some 44) (v := ?_) (a' := ?_) #[T,T,F,F,F,F,F,F,F] rfl rfl (any_of HT_.out (z_0)) (fun _ _ _ h => h) (Or.inl ⟨z_30, ?_⟩) ?_ ?_
         rotate_left
         ·intro w'
          go_simp
          with_reducible rfl
         rotate_left
         ·simp only [Act.put, List.setIfInBounds_toArray, List.set_cons_zero, List.set_cons_succ, i64_w, i32_w]
          rfl
         refine pure_ (i := 2) (N := some 45) (v := ?_) (a' := ?_) #[T,T,T,F,F,F,F,F,F] rfl rfl (any_of HT_.out (z_0)) (fun _ _ _ h => h) (Or.inl ⟨z_30, ?_⟩) ?_ ?_
         rotate_left
         ·intro w'
          go_simp
          with_reducible rfl
         rotate_left
         ·simp only [Act.put, List.setIfInBounds_toArray, List.set_cons_zero, List.set_cons_succ, i64_w, i32_w]
          rfl
         refine pure_ (i := 3) (N := some 46) (v := ?_) (a' := ?_) #[T,T,T,T,F,F,F,F,F] rfl rfl (any_of HT_.out (z_0)) (fun _ _ _ h => h) (Or.inl ⟨z_30, ?_⟩) ?_ ?_
         rotate_left
         ·intro w'
          go_simp
          with_reducible rfl
         rotate_left
         ·simp only [Act.put, List.setIfInBounds_toArray, List.set_cons_zero, List.set_cons_succ, i64_w, i32_w]
          rfl
         refine pure_ (i := 4) (N := some 47) (v := ?_) (a' := ?_) #[T,T,T,T,T,F,F,F,F] rfl rfl (any_of HT_.out (z_0)) (fun _ _ _ h => h) (Or.inl ⟨z_30, ?_⟩) ?_ ?_
         rotate_left
         ·intro w'
          go_simp
          with_reducible rfl
         rotate_left
         ·simp only [Act.put, List.setIfInBounds_toArray, List.set_cons_zero, List.set_cons_succ, i64_w, i32_w]
          rfl
         refine pure_ (i := 6) (N := some 49) (v := ?_) (a' := ?_) #[T,T,T,T,T,F,T,F,F] rfl rfl (any_of HT_.out (z_0)) (fun _ _ _ h => h) (Or.inl ⟨z_30, ?_⟩) ?_ ?_
         rotate_left
         ·intro w'
          go_simp
          with_reducible rfl
         rotate_left
         ·simp only [Act.put, List.setIfInBounds_toArray, List.set_cons_zero, List.set_cons_succ, i64_w, i32_w]
          rfl
         refine take_ (i := 5) (N := some 48) (v := ?_) (a' := ?_) #[T,T,T,T,T,T,T,F,F] rfl rfl (take_ofW HT_.out HW_.out (z_0)) (fun _ _ _ h => h) (Or.inl ⟨z_30, ?_⟩) hHeld ?_ ?_
         rotate_left
         ·rintro w' ⟨s0, s1, s2, s3, s4, s5⟩
          go_simp
          with_reducible rfl
         rotate_left
         ·simp only [Act.put, List.setIfInBounds_toArray, List.set_cons_zero, List.set_cons_succ, i64_w, i32_w]
          rfl
         refine one_ (i := 7) (N := some 50) #[T,T,T,T,T,T,T,T,F] rfl rfl (one_of HT_.out (z_0)) (z_19) (fun K hK => ?_)
         refine goes_ Try.func77 (z_0) rfl #[.int .i64 (wrap64 ((wrap64 ((wrap64 (x1_1 + 1)) + 1)) + 1))] (z_30) rfl rfl (z_8) ?_
         with_reducible refine (laws_markText.calls k1 (wrap64 ((wrap64 ((wrap64 (x1_1 + 1)) + 1)) + 1)) t335 _ A9.out).mono ?_
         rintro e w28 ⟨rfl, hb⟩
         refine ⟨_, rfl, ?_⟩
         have n0_ := Aside0.mk (below_step (z_2) hb)
         clear HB
         have HB := n0_
         clear n0_
         (try clear hb)
         (try clear hb2)
         (try clear hk)
         (try clear hi)
         refine hK.out _ _ ⟨(pw_cell_below HB.out hw334_0), (pw_cell_below HB.out hw334_1), (pw_cell_below HB.out hw334_2), (pw_cell_below HB.out hw334_3), (pw_cell_below HB.out hw334_4), (pw_cell_below HB.out hw334_5)⟩ (fun hHeld => ?_)
         clear hK K
         refine norm_ (a' := ?_) ?_ ?_
         rotate_left
         ·show Act.put _ (some 50) _ = _
          simp only [Act.put, List.setIfInBounds_toArray, List.set_cons_zero, List.set_cons_succ, i64_w, i32_w]
          rfl
         refine pure_ (i := 8) (N := some 51) (v := ?_) (a' := ?_) #[T,T,T,T,T,T,T,T,T] rfl rfl (any_of HT_.out (z_0)) (fun _ _ _ h => h) (Or.inl ⟨z_30, ?_⟩) ?_ ?_
         rotate_left
         ·intro w'
          go_simp
          with_reducible rfl
         rotate_left
         ·simp only [Act.put, List.setIfInBounds_toArray, List.set_cons_zero, List.set_cons_succ, i64_w, i32_w]
          rfl
         refine done_ (done_of HT_.out (z_0)) ?_
         try go_wp2
         go_ret
         exact ⟨z_4, z_2⟩
       ·rw [if_neg c8] at H
        have c8b0 : (((rd_T83 l0 x5_1).f0.f2) == (wrap64 ((wrap64 (x1_1 + 1)) + 1))) = false := beq_eq_false_iff_ne.mpr c8
        have c8b1 : (((rd_T83 l0 x5_1).f0.f2) != (wrap64 ((wrap64 (x1_1 + 1)) + 1))) = true := bne_iff_ne.mpr c8
        obtain rfl := Option.some.inj H
        try go_wp2
        have n0_ := Aside0.mk (below_drew1 HB.out)
        clear HB
        have HB := n0_
        clear n0_
        have p330 : 0 ≤ (x5_1 : Int) := of_decide_eq_true (z_7)
        have q330 : x5_1 < (l0.length : Int) := of_decide_eq_true (z_7)
        obtain ⟨ad330, e330, hx330_0, hx330_1, hx330_2, hx330_3, hx330_4, hx330_5⟩ := at_T83 HR0.out x5_1 p330 q330
        have hw330_5 := hx330_5
        have hw330_4 := hx330_4
        have hw330_3 := hx330_3
        have hw330_2 := hx330_2
        have hw330_1 := hx330_1
        have hw330_0 := hx330_0
        cases e330
        replace hx330_0 := pw_cell_below HB.out hx330_0
        replace hx330_1 := pw_cell_below HB.out hx330_1
        replace hx330_2 := pw_cell_below HB.out hx330_2
        replace hx330_3 := pw_cell_below HB.out hx330_3
        replace hx330_4 := pw_cell_below HB.out hx330_4
        replace hx330_5 := pw_cell_below HB.out hx330_5
        replace p330 := eq_true p330
        replace q330 := eq_true q330
        refine start_ (n := 9) (S := fun w' => w'.cell? (ad330.add ((x5_1).toNat * 6)) = some (.string ((rd_T83 l0 x5_1).f0.f0)) ∧ w'.cell? ⟨(ad330.add ((x5_1).toNat * 6)).block, (ad330.add ((x5_1).toNat * 6)).off + 1, none⟩ = some (.int .i64 ((rd_T83 l0 x5_1).f0.f1)) ∧ w'.cell? ⟨(ad330.add ((x5_1).toNat * 6)).block, (ad330.add ((x5_1).toNat * 6)).off + 2, none⟩ = some (.int .i64 ((rd_T83 l0 x5_1).f0.f2)) ∧ w'.cell? ⟨(ad330.add ((x5_1).toNat * 6)).block, (ad330.add ((x5_1).toNat * 6)).off + 3, none⟩ = some (.string ((rd_T83 l0 x5_1).f0.f3)) ∧ w'.cell? ⟨(ad330.add ((x5_1).toNat * 6)).block, (ad330.add ((x5_1).toNat * 6)).off + 4, none⟩ = some (.int .i64 ((rd_T83 l0 x5_1).f0.f4)) ∧ w'.cell? ⟨(ad330.add ((x5_1).toNat * 6)).block, (ad330.add ((x5_1).toNat * 6)).off + 5, none⟩ = some (.int .i64 ((rd_T83 l0 x5_1).f1))) (ds := []) #[F,F,F,F,F,F,F,F,F] (z_0) rfl rfl ⟨(pw_cell_below HB.out hw330_0), (pw_cell_below HB.out hw330_1), (pw_cell_below HB.out hw330_2), (pw_cell_below HB.out hw330_3), (pw_cell_below HB.out hw330_4), (pw_cell_below HB.out hw330_5)⟩ (fun hHeld => ?_); refine with_tabW laws_heldKeptS.tab4 laws_heldKeptS.bits4 (fun HT_ HW_ => ?_)
        generalize wr.drew = w29 at HB hx330_0 hx330_1 hx330_2 hx330_3 hx330_4 hx330_5 hHeld ⊢
        refine pure_ (i := 0) (N := some 12) (v := ?_) (a' := ?_) #[T,F,F,F,F,F,F,F,F] rfl rfl (any_of HT_.out (z_0)) (fun _ _ _ h => h) (Or.inl ⟨z_30, ?_⟩) ?_ ?_
        rotate_left
        ·intro w'
         go_simp
         with_reducible rfl
        rotate_left
        ·simp only [Act.put, List.setIfInBounds_toArray, List.set_cons_zero, List.set_cons_succ, i64_w, i32_w]
         rfl
        refine pure_ (i := 1) (N := some 13) (v := ?_) (a' := ?_) #[T,T,F,F,F,F,F,F,F] rfl rfl (any_of HT_.out (z_0)) (fun _ _ _ h => h) (Or.inl ⟨z_30, ?_⟩) ?_ ?_
        rotate_left
        ·intro w'
         go_simp
         with_reducible rfl
        rotate_left
        ·simp only [Act.put, List.setIfInBounds_toArray, List.set_cons_zero, List.set_cons_succ, i64_w, i32_w]
         rfl
        refine pure_ (i := 2) (N := some 14) (v := ?_) (a' := ?_) #[T,T,T,F,F,F,F,F,F] rfl rfl (any_of HT_.out (z_0)) (fun _ _ _ h => h) (Or.inl ⟨z_30, ?_⟩) ?_ ?_
        rotate_left
        ·intro w'
         go_simp
         with_reducible rfl
        rotate_left
        ·simp only [Act.put, List.setIfInBounds_toArray, List.set_cons_zero, List.set_cons_succ, i64_w, i32_w]
         rfl
        refine pure_ (i := 3) (N := some 15) (v := ?_) (a' := ?_) #[T,T,T,T,F,F,F,F,F] rfl rfl (any_of HT_.out (z_0)) (fun _ _ _ h => h) (Or.inl ⟨z_30, ?_⟩) ?_ ?_
        rotate_left
        ·intro w'
         go_simp
         with_reducible rfl
        rotate_left
        ·simp only [Act.put, List.setIfInBounds_toArray, List.set_cons_zero, List.set_cons_succ, i64_w, i32_w]
         rfl
        refine pure_ (i := 4) (N := some 16) (v := ?_) (a' := ?_) #[T,T,T,T,T,F,F,F,F] rfl rfl (any_of HT_.out (z_0)) (fun _ _ _ h => h) (Or.inl ⟨z_30, ?_⟩) ?_ ?_
        rotate_left
        ·intro w'
         go_simp
         with_reducible rfl
        rotate_left
        ·simp only [Act.put, List.setIfInBounds_toArray, List.set_cons_zero, List.set_cons_succ, i64_w, i32_w]
         rfl
        refine pure_ (i := 6) (N := some 18) (v := ?_) (a' := ?_) #[T,T,T,T,T,F,T,F,F] rfl rfl (any_of HT_.out (z_0)) (fun _ _ _ h => h) (Or.inl ⟨z_30, ?_⟩) ?_ ?_
        rotate_left
        ·intro w'
         go_simp
         with_reducible rfl
        rotate_left
        ·simp only [Act.put, List.setIfInBounds_toArray, List.set_cons_zero, List.set_cons_succ, i64_w, i32_w]
         rfl
        refine take_ (i := 5) (N := some 17) (v := ?_) (a' := ?_) #[T,T,T,T,T,T,T,F,F] rfl rfl (take_ofW HT_.out HW_.out (z_0)) (fun _ _ _ h => h) (Or.inl ⟨z_30, ?_⟩) hHeld ?_ ?_
        rotate_left
        ·rintro w' ⟨s0, s1, s2, s3, s4, s5⟩
         go_simp
         with_reducible rfl
        rotate_left
        ·simp only [Act.put, List.setIfInBounds_toArray, List.set_cons_zero, List.set_cons_succ, i64_w, i32_w]
         rfl
        refine one_ (i := 7) (N := some 19) #[T,T,T,T,T,T,T,T,F] rfl rfl (one_of HT_.out (z_0)) (z_19) (fun K hK => ?_)
        refine goes_ Try.func77 (z_0) rfl #[.int .i64 x1_1] (z_30) rfl rfl (z_8) ?_
        with_reducible refine (laws_markText.calls k1 x1_1 t331 _ A5.out).mono ?_
        rintro e w30 ⟨rfl, hb⟩
        refine ⟨_, rfl, ?_⟩
        have n0_ := Aside0.mk (below_step (z_2) hb)
        clear HB
        have HB := n0_
        clear n0_
        (try clear hb)
        (try clear hb2)
        (try clear hk)
        (try clear hi)
        refine hK.out _ _ ⟨(pw_cell_below HB.out hw330_0), (pw_cell_below HB.out hw330_1), (pw_cell_below HB.out hw330_2), (pw_cell_below HB.out hw330_3), (pw_cell_below HB.out hw330_4), (pw_cell_below HB.out hw330_5)⟩ (fun hHeld => ?_)
        clear hK K
        refine norm_ (a' := ?_) ?_ ?_
        rotate_left
        ·show Act.put _ (some 19) _ = _
         simp only [Act.put, List.setIfInBounds_toArray, List.set_cons_zero, List.set_cons_succ, i64_w, i32_w]
         rfl
        refine pure_ (i := 8) (N := some 20) (v := ?_) (a' := ?_) #[T,T,T,T,T,T,T,T,T] rfl rfl (any_of HT_.out (z_0)) (fun _ _ _ h => h) (Or.inl ⟨z_30, ?_⟩) ?_ ?_
        rotate_left
        ·intro w'
         go_simp
         with_reducible rfl
        rotate_left
        ·simp only [Act.put, List.setIfInBounds_toArray, List.set_cons_zero, List.set_cons_succ, i64_w, i32_w]
         rfl
        refine done_ (done_of HT_.out (z_0)) ?_
        have p332 : 0 ≤ (x5_1 : Int) := of_decide_eq_true (z_7)
        have q332 : x5_1 < (l0.length : Int) := of_decide_eq_true (z_7)
        obtain ⟨ad332, e332, hx332_0, hx332_1, hx332_2, hx332_3, hx332_4, hx332_5⟩ := at_T83 HR0.out x5_1 p332 q332
        obtain rfl : ad330 = ad332 := (by injection e332)
        replace hx332_0 := pw_cell_below HB.out hx332_0
        replace hx332_1 := pw_cell_below HB.out hx332_1
        replace hx332_2 := pw_cell_below HB.out hx332_2
        replace hx332_3 := pw_cell_below HB.out hx332_3
        replace hx332_4 := pw_cell_below HB.out hx332_4
        replace hx332_5 := pw_cell_below HB.out hx332_5
        replace p332 := eq_true p332
        replace q332 := eq_true q332
        have p333 : 0 ≤ (x5_1 : Int) := of_decide_eq_true (z_7)
        have q333 : x5_1 < (l0.length : Int) := of_decide_eq_true (z_7)
        obtain ⟨ad333, e333, hx333_0, hx333_1, hx333_2, hx333_3, hx333_4, hx333_5⟩ := at_T83 HR0.out x5_1 p333 q333
        obtain rfl : ad330 = ad333 := (by injection e333)
        replace hx333_0 := pw_cell_below HB.out hx333_0
        replace hx333_1 := pw_cell_below HB.out hx333_1
        replace hx333_2 := pw_cell_below HB.out hx333_2
        replace hx333_3 := pw_cell_below HB.out hx333_3
        replace hx333_4 := pw_cell_below HB.out hx333_4
        replace hx333_5 := pw_cell_below HB.out hx333_5
        replace p333 := eq_true p333
        replace q333 := eq_true q333
        try go_wp2
        go_ret
        exact ⟨z_4, z_2⟩
      ·rw [if_neg c7] at H
       have c7b0 : (((rd_T83 l0 x5_1).f0.f1) == (wrap64 (x1_1 + 1))) = false := beq_eq_false_iff_ne.mpr c7
       have c7b1 : (((rd_T83 l0 x5_1).f0.f1) != (wrap64 (x1_1 + 1))) = true := bne_iff_ne.mpr c7
       obtain rfl := Option.some.inj H
       try go_wp2
       have n0_ := Aside0.mk (below_drew1 HB.out)
       clear HB
       have HB := n0_
       clear n0_
       have p330 : 0 ≤ (x5_1 : Int) := of_decide_eq_true (z_7)
       have q330 : x5_1 < (l0.length : Int) := of_decide_eq_true (z_7)
       obtain ⟨ad330, e330, hx330_0, hx330_1, hx330_2, hx330_3, hx330_4, hx330_5⟩ := at_T83 HR0.out x5_1 p330 q330
       have hw330_5 := hx330_5
       have hw330_4 := hx330_4
       have hw330_3 := hx330_3
       have hw330_2 := hx330_2
       have hw330_1 := hx330_1
       have hw330_0 := hx330_0
       cases e330
       replace hx330_0 := pw_cell_below HB.out hx330_0
       replace hx330_1 := pw_cell_below HB.out hx330_1
       replace hx330_2 := pw_cell_below HB.out hx330_2
       replace hx330_3 := pw_cell_below HB.out hx330_3
       replace hx330_4 := pw_cell_below HB.out hx330_4
       replace hx330_5 := pw_cell_below HB.out hx330_5
       replace p330 := eq_true p330
       replace q330 := eq_true q330
       refine start_ (n := 9) (S := fun w' => w'.cell? (ad330.add ((x5_1).toNat * 6)) = some (.string ((rd_T83 l0 x5_1).f0.f0)) ∧ w'.cell? ⟨(ad330.add ((x5_1).toNat * 6)).block, (ad330.add ((x5_1).toNat * 6)).off + 1, none⟩ = some (.int .i64 ((rd_T83 l0 x5_1).f0.f1)) ∧ w'.cell? ⟨(ad330.add ((x5_1).toNat * 6)).block, (ad330.add ((x5_1).toNat * 6)).off + 2, none⟩ = some (.int .i64 ((rd_T83 l0 x5_1).f0.f2)) ∧ w'.cell? ⟨(ad330.add ((x5_1).toNat * 6)).block, (ad330.add ((x5_1).toNat * 6)).off + 3, none⟩ = some (.string ((rd_T83 l0 x5_1).f0.f3)) ∧ w'.cell? ⟨(ad330.add ((x5_1).toNat * 6)).block, (ad330.add ((x5_1).toNat * 6)).off + 4, none⟩ = some (.int .i64 ((rd_T83 l0 x5_1).f0.f4)) ∧ w'.cell? ⟨(ad330.add ((x5_1).toNat * 6)).block, (ad330.add ((x5_1).toNat * 6)).off + 5, none⟩ = some (.int .i64 ((rd_T83 l0 x5_1).f1))) (ds := []) #[F,F,F,F,F,F,F,F,F] (z_0) rfl rfl ⟨(pw_cell_below HB.out hw330_0), (pw_cell_below HB.out hw330_1), (pw_cell_below HB.out hw330_2), (pw_cell_below HB.out hw330_3), (pw_cell_below HB.out hw330_4), (pw_cell_below HB.out hw330_5)⟩ (fun hHeld => ?_); refine with_tabW laws_heldKeptS.tab4 laws_heldKeptS.bits4 (fun HT_ HW_ => ?_)
       generalize wr.drew = w31 at HB hx330_0 hx330_1 hx330_2 hx330_3 hx330_4 hx330_5 hHeld ⊢
       refine pure_ (i := 0) (N := some 12) (v := ?_) (a' := ?_) #[T,F,F,F,F,F,F,F,F] rfl rfl (any_of HT_.out (z_0)) (fun _ _ _ h => h) (Or.inl ⟨z_30, ?_⟩) ?_ ?_
       rotate_left
       ·intro w'
        go_simp
        with_reducible rfl
       rotate_left
       ·simp only [Act.put, List.setIfInBounds_toArray, List.set_cons_zero, List.set_cons_succ, i64_w, i32_w]
        rfl
       refine pure_ (i := 1) (N := some 13) (v := ?_) (a' := ?_) #[T,T,F,F,F,F,F,F,F] rfl rfl (any_of HT_.out (z_0)) (fun _ _ _ h => h) (Or.inl ⟨z_30, ?_⟩) ?_ ?_
       rotate_left
       ·intro w'
        go_simp
        with_reducible rfl
       rotate_left
       ·simp only [Act.put, List.setIfInBounds_toArray, List.set_cons_zero, List.set_cons_succ, i64_w, i32_w]
        rfl
       refine pure_ (i := 2) (N := some 14) (v := ?_) (a' := ?_) #[T,T,T,F,F,F,F,F,F] rfl rfl (any_of HT_.out (z_0)) (fun _ _ _ h => h) (Or.inl ⟨z_30, ?_⟩) ?_ ?_
       rotate_left
       ·intro w'
        go_simp
        with_reducible rfl
       rotate_left
       ·simp only [Act.put, List.setIfInBounds_toArray, List.set_cons_zero, List.set_cons_succ, i64_w, i32_w]
        rfl
       refine pure_ (i := 3) (N := some 15) (v := ?_) (a' := ?_) #[T,T,T,T,F,F,F,F,F] rfl rfl (any_of HT_.out (z_0)) (fun _ _ _ h => h) (Or.inl ⟨z_30, ?_⟩) ?_ ?_
       rotate_left
       ·intro w'
        go_simp
        with_reducible rfl
       rotate_left
       ·simp only [Act.put, List.setIfInBounds_toArray, List.set_cons_zero, List.set_cons_succ, i64_w, i32_w]
        rfl
       refine pure_ (i := 4) (N := some 16) (v := ?_) (a' := ?_) #[T,T,T,T,T,F,F,F,F] rfl rfl (any_of HT_.out (z_0)) (fun _ _ _ h => h) (Or.inl ⟨z_30, ?_⟩) ?_ ?_
       rotate_left
       ·intro w'
        go_simp
        with_reducible rfl
       rotate_left
       ·simp only [Act.put, List.setIfInBounds_toArray, List.set_cons_zero, List.set_cons_succ, i64_w, i32_w]
        rfl
       refine pure_ (i := 6) (N := some 18) (v := ?_) (a' := ?_) #[T,T,T,T,T,F,T,F,F] rfl rfl (any_of HT_.out (z_0)) (fun _ _ _ h => h) (Or.inl ⟨z_30, ?_⟩) ?_ ?_
       rotate_left
       ·intro w'
        go_simp
        with_reducible rfl
       rotate_left
       ·simp only [Act.put, List.setIfInBounds_toArray, List.set_cons_zero, List.set_cons_succ, i64_w, i32_w]
        rfl
       refine take_ (i := 5) (N := some 17) (v := ?_) (a' := ?_) #[T,T,T,T,T,T,T,F,F] rfl rfl (take_ofW HT_.out HW_.out (z_0)) (fun _ _ _ h => h) (Or.inl ⟨z_30, ?_⟩) hHeld ?_ ?_
       rotate_left
       ·rintro w' ⟨s0, s1, s2, s3, s4, s5⟩
        go_simp
        with_reducible rfl
       rotate_left
       ·simp only [Act.put, List.setIfInBounds_toArray, List.set_cons_zero, List.set_cons_succ, i64_w, i32_w]
        rfl
       refine one_ (i := 7) (N := some 19) #[T,T,T,T,T,T,T,T,F] rfl rfl (one_of HT_.out (z_0)) (z_19) (fun K hK => ?_)
       refine goes_ Try.func77 (z_0) rfl #[.int .i64 x1_1] (z_30) rfl rfl (z_8) ?_
       with_reducible refine (laws_markText.calls k1 x1_1 t331 _ A5.out).mono ?_
       rintro e w32 ⟨rfl, hb⟩
       refine ⟨_, rfl, ?_⟩
       have n0_ := Aside0.mk (below_step (z_2) hb)
       clear HB
       have HB := n0_
       clear n0_
       (try clear hb)
       (try clear hb2)
       (try clear hk)
       (try clear hi)
       refine hK.out _ _ ⟨(pw_cell_below HB.out hw330_0), (pw_cell_below HB.out hw330_1), (pw_cell_below HB.out hw330_2), (pw_cell_below HB.out hw330_3), (pw_cell_below HB.out hw330_4), (pw_cell_below HB.out hw330_5)⟩ (fun hHeld => ?_)
       clear hK K
       refine norm_ (a' := ?_) ?_ ?_
       rotate_left
       ·show Act.put _ (some 19) _ = _
        simp only [Act.put, List.setIfInBounds_toArray, List.set_cons_zero, List.set_cons_succ, i64_w, i32_w]
        rfl
       refine pure_ (i := 8) (N := some 20) (v := ?_) (a' := ?_) #[T,T,T,T,T,T,T,T,T] rfl rfl (any_of HT_.out (z_0)) (fun _ _ _ h => h) (Or.inl ⟨z_30, ?_⟩) ?_ ?_
       rotate_left
       ·intro w'
        go_simp
        with_reducible rfl
       rotate_left
       ·simp only [Act.put, List.setIfInBounds_toArray, List.set_cons_zero, List.set_cons_succ, i64_w, i32_w]
        rfl
       refine done_ (done_of HT_.out (z_0)) ?_
       have p332 : 0 ≤ (x5_1 : Int) := of_decide_eq_true (z_7)
       have q332 : x5_1 < (l0.length : Int) := of_decide_eq_true (z_7)
       obtain ⟨ad332, e332, hx332_0, hx332_1, hx332_2, hx332_3, hx332_4, hx332_5⟩ := at_T83 HR0.out x5_1 p332 q332
       obtain rfl : ad330 = ad332 := (by injection e332)
       replace hx332_0 := pw_cell_below HB.out hx332_0
       replace hx332_1 := pw_cell_below HB.out hx332_1
       replace hx332_2 := pw_cell_below HB.out hx332_2
       replace hx332_3 := pw_cell_below HB.out hx332_3
       replace hx332_4 := pw_cell_below HB.out hx332_4
       replace hx332_5 := pw_cell_below HB.out hx332_5
       replace p332 := eq_true p332
       replace q332 := eq_true q332
       try go_wp2
       go_ret
       exact ⟨z_4, z_2⟩
     ·rw [if_neg c6] at H
      have c6b0 : (((rd_T83 l0 x5_1).f0.f0).toList == t331.toList) = false := beq_eq_false_iff_ne.mpr c6
      have c6b1 : (((rd_T83 l0 x5_1).f0.f0).toList != t331.toList) = true := bne_iff_ne.mpr c6
      obtain rfl := Option.some.inj H
      try go_wp2
      have n0_ := Aside0.mk (below_drew1 HB.out)
      clear HB
      have HB := n0_
      clear n0_
      have p330 : 0 ≤ (x5_1 : Int) := of_decide_eq_true (z_7)
      have q330 : x5_1 < (l0.length : Int) := of_decide_eq_true (z_7)
      obtain ⟨ad330, e330, hx330_0, hx330_1, hx330_2, hx330_3, hx330_4, hx330_5⟩ := at_T83 HR0.out x5_1 p330 q330
      have hw330_5 := hx330_5
      have hw330_4 := hx330_4
      have hw330_3 := hx330_3
      have hw330_2 := hx330_2
      have hw330_1 := hx330_1
      have hw330_0 := hx330_0
      cases e330
      replace hx330_0 := pw_cell_below HB.out hx330_0
      replace hx330_1 := pw_cell_below HB.out hx330_1
      replace hx330_2 := pw_cell_below HB.out hx330_2
      replace hx330_3 := pw_cell_below HB.out hx330_3
      replace hx330_4 := pw_cell_below HB.out hx330_4
      replace hx330_5 := pw_cell_below HB.out hx330_5
      replace p330 := eq_true p330
      replace q330 := eq_true q330
      refine start_ (n := 9) (S := fun w' => w'.cell? (ad330.add ((x5_1).toNat * 6)) = some (.string ((rd_T83 l0 x5_1).f0.f0)) ∧ w'.cell? ⟨(ad330.add ((x5_1).toNat * 6)).block, (ad330.add ((x5_1).toNat * 6)).off + 1, none⟩ = some (.int .i64 ((rd_T83 l0 x5_1).f0.f1)) ∧ w'.cell? ⟨(ad330.add ((x5_1).toNat * 6)).block, (ad330.add ((x5_1).toNat * 6)).off + 2, none⟩ = some (.int .i64 ((rd_T83 l0 x5_1).f0.f2)) ∧ w'.cell? ⟨(ad330.add ((x5_1).toNat * 6)).block, (ad330.add ((x5_1).toNat * 6)).off + 3, none⟩ = some (.string ((rd_T83 l0 x5_1).f0.f3)) ∧ w'.cell? ⟨(ad330.add ((x5_1).toNat * 6)).block, (ad330.add ((x5_1).toNat * 6)).off + 4, none⟩ = some (.int .i64 ((rd_T83 l0 x5_1).f0.f4)) ∧ w'.cell? ⟨(ad330.add ((x5_1).toNat * 6)).block, (ad330.add ((x5_1).toNat * 6)).off + 5, none⟩ = some (.int .i64 ((rd_T83 l0 x5_1).f1))) (ds := []) #[F,F,F,F,F,F,F,F,F] (z_0) rfl rfl ⟨(pw_cell_below HB.out hw330_0), (pw_cell_below HB.out hw330_1), (pw_cell_below HB.out hw330_2), (pw_cell_below HB.out hw330_3), (pw_cell_below HB.out hw330_4), (pw_cell_below HB.out hw330_5)⟩ (fun hHeld => ?_); refine with_tabW laws_heldKeptS.tab4 laws_heldKeptS.bits4 (fun HT_ HW_ => ?_)
      generalize wr.drew = w33 at HB hx330_0 hx330_1 hx330_2 hx330_3 hx330_4 hx330_5 hHeld ⊢
      refine pure_ (i := 0) (N := some 12) (v := ?_) (a' := ?_) #[T,F,F,F,F,F,F,F,F] rfl rfl (any_of HT_.out (z_0)) (fun _ _ _ h => h) (Or.inl ⟨z_30, ?_⟩) ?_ ?_
      rotate_left
      ·intro w'
       go_simp
       with_reducible rfl
      rotate_left
      ·simp only [Act.put, List.setIfInBounds_toArray, List.set_cons_zero, List.set_cons_succ, i64_w, i32_w]
       rfl
      refine pure_ (i := 1) (N := some 13) (v := ?_) (a' := ?_) #[T,T,F,F,F,F,F,F,F] rfl rfl (any_of HT_.out (z_0)) (fun _ _ _ h => h) (Or.inl ⟨z_30, ?_⟩) ?_ ?_
      rotate_left
      ·intro w'
       go_simp
       with_reducible rfl
      rotate_left
      ·simp only [Act.put, List.setIfInBounds_toArray, List.set_cons_zero, List.set_cons_succ, i64_w, i32_w]
       rfl
      refine pure_ (i := 2) (N := some 14) (v := ?_) (a' := ?_) #[T,T,T,F,F,F,F,F,F] rfl rfl (any_of HT_.out (z_0)) (fun _ _ _ h => h) (Or.inl ⟨z_30, ?_⟩) ?_ ?_
      rotate_left
      ·intro w'
       go_simp
       with_reducible rfl
      rotate_left
      ·simp only [Act.put, List.setIfInBounds_toArray, List.set_cons_zero, List.set_cons_succ, i64_w, i32_w]
       rfl
      refine pure_ (i := 3) (N := some 15) (v := ?_) (a' := ?_) #[T,T,T,T,F,F,F,F,F] rfl rfl (any_of HT_.out (z_0)) (fun _ _ _ h => h) (Or.inl ⟨z_30, ?_⟩) ?_ ?_
      rotate_left
      ·intro w'
       go_simp
       with_reducible rfl
      rotate_left
      ·simp only [Act.put, List.setIfInBounds_toArray, List.set_cons_zero, List.set_cons_succ, i64_w, i32_w]
       rfl
      refine pure_ (i := 4) (N := some 16) (v := ?_) (a' := ?_) #[T,T,T,T,T,F,F,F,F] rfl rfl (any_of HT_.out (z_0)) (fun _ _ _ h => h) (Or.inl ⟨z_30, ?_⟩) ?_ ?_
      rotate_left
      ·intro w'
       go_simp
       with_reducible rfl
      rotate_left
      ·simp only [Act.put, List.setIfInBounds_toArray, List.set_cons_zero, List.set_cons_succ, i64_w, i32_w]
       rfl
      refine pure_ (i := 6) (N := some 18) (v := ?_) (a' := ?_) #[T,T,T,T,T,F,T,F,F] rfl rfl (any_of HT_.out (z_0)) (fun _ _ _ h => h) (Or.inl ⟨z_30, ?_⟩) ?_ ?_
      rotate_left
      ·intro w'
       go_simp
       with_reducible rfl
      rotate_left
      ·simp only [Act.put, List.setIfInBounds_toArray, List.set_cons_zero, List.set_cons_succ, i64_w, i32_w]
       rfl
      refine take_ (i := 5) (N := some 17) (v := ?_) (a' := ?_) #[T,T,T,T,T,T,T,F,F] rfl rfl (take_ofW HT_.out HW_.out (z_0)) (fun _ _ _ h => h) (Or.inl ⟨z_30, ?_⟩) hHeld ?_ ?_
      rotate_left
      ·rintro w' ⟨s0, s1, s2, s3, s4, s5⟩
       go_simp
       with_reducible rfl
      rotate_left
      ·simp only [Act.put, List.setIfInBounds_toArray, List.set_cons_zero, List.set_cons_succ, i64_w, i32_w]
       rfl
      refine one_ (i := 7) (N := some 19) #[T,T,T,T,T,T,T,T,F] rfl rfl (one_of HT_.out (z_0)) (z_19) (fun K hK => ?_)
      refine goes_ Try.func77 (z_0) rfl #[.int .i64 x1_1] (z_30) rfl rfl (z_8) ?_
      with_reducible refine (laws_markText.calls k1 x1_1 t331 _ A5.out).mono ?_
      rintro e w34 ⟨rfl, hb⟩
      refine ⟨_, rfl, ?_⟩
      have n0_ := Aside0.mk (below_step (z_2) hb)
      clear HB
      have HB := n0_
      clear n0_
      (try clear hb)
      (try clear hb2)
      (try clear hk)
      (try clear hi)
      refine hK.out _ _ ⟨(pw_cell_below HB.out hw330_0), (pw_cell_below HB.out hw330_1), (pw_cell_below HB.out hw330_2), (pw_cell_below HB.out hw330_3), (pw_cell_below HB.out hw330_4), (pw_cell_below HB.out hw330_5)⟩ (fun hHeld => ?_)
      clear hK K
      refine norm_ (a' := ?_) ?_ ?_
      rotate_left
      ·show Act.put _ (some 19) _ = _
       simp only [Act.put, List.setIfInBounds_toArray, List.set_cons_zero, List.set_cons_succ, i64_w, i32_w]
       rfl
      refine pure_ (i := 8) (N := some 20) (v := ?_) (a' := ?_) #[T,T,T,T,T,T,T,T,T] rfl rfl (any_of HT_.out (z_0)) (fun _ _ _ h => h) (Or.inl ⟨z_30, ?_⟩) ?_ ?_
      rotate_left
      ·intro w'
       go_simp
       with_reducible rfl
      rotate_left
      ·simp only [Act.put, List.setIfInBounds_toArray, List.set_cons_zero, List.set_cons_succ, i64_w, i32_w]
       rfl
      refine done_ (done_of HT_.out (z_0)) ?_
      try go_wp2
      go_ret
      exact ⟨z_4, z_2⟩
    ·rw [if_neg c4] at H
     exact absurd H (z_10)
   ·rw [if_neg c3] at H
    have c3b0 : decide (x5_1 < (l0.length : Int)) = false := decide_eq_false c3
    clear c3
    obtain rfl := Option.some.inj H
    go_wp2
    go_ret
    exact ⟨z_4, z_2⟩

end Go.Proofs.Ytmgnmgobibpjjaa.GFnExactKeptAsk
