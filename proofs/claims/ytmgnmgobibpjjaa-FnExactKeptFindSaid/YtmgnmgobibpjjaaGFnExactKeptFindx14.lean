/- What the Go functions that FnExactKeptFind reaches come to, walked step by step; there is no condition beyond those each statement names. -/
import Derived.Test.YtmgnmgobibpjjaaGFnExactKeptFindx0
import Derived.Test.YtmgnmgobibpjjaaGFnExactKeptFindx13
namespace Go.Proofs.Ytmgnmgobibpjjaa.GFnExactKeptFind
open Go.RowKit Go.Proofs.YtmgnmgobibpjjaaVExactKeptFind.PrintWords Go.Proofs.YtmgnmgobibpjjaaVExactKeptFind.PrintLast Go.Proofs.YtmgnmgobibpjjaaVExactKeptFind.PrintMore
open Bool renaming true → T, false → F
attribute [local go_sem] max2_int min2_int max_two min_two max_three min_three max_four min_four   -- for this text's walks alone
set_option linter.unusedVariables false
set_option linter.unusedSimpArgs false

/-! ### laws_heldKeptS: function 53 -/
def laws_heldKeptS.l0 : Nat → List (S83) → Int → Int → Option (Int)
 | 0, _, _, _ => none
 | k + 1, x0, x1, x5 => if x5 < (x0.length : Int) then (if 0 ≤ x5 then ((laws_markText.f k x1).bind fun t351 => (if ((rd_T83 x0 x5).f0.f0).toList = t351.toList then (if ((rd_T83 x0 x5).f0.f1) = (wrap64 (x1 + 1)) then (if ((rd_T83 x0 x5).f0.f2) = (wrap64 ((wrap64 (x1 + 1)) + 1)) then ((laws_markText.f k (wrap64 ((wrap64 ((wrap64 (x1 + 1)) + 1)) + 1))).bind fun t355 => (if ((rd_T83 x0 x5).f0.f3).toList = t355.toList then (if ((rd_T83 x0 x5).f0.f4) = (wrap64 ((wrap64 ((wrap64 ((wrap64 (x1 + 1)) + 1)) + 1)) + 1)) then (if ((rd_T83 x0 x5).f1) = (wrap64 ((wrap64 ((wrap64 ((wrap64 ((wrap64 (x1 + 1)) + 1)) + 1)) + 1)) + 1)) then (laws_heldKeptS.l0 k x0 (wrap64 ((wrap64 ((wrap64 ((wrap64 ((wrap64 ((wrap64 (x1 + 1)) + 1)) + 1)) + 1)) + 1)) + 1)) (wrap64 (x5 + 1))) else (some (-1))) else (some (-1))) else (some (-1)))) else (some (-1))) else (some (-1))) else (some (-1)))) else (none)) else (some x1)
def laws_heldKeptS.f (k : Nat) (l0 : List (S83)) (a1 : Int) : Option (Int) := laws_heldKeptS.l0 k l0 a1 0
theorem laws_heldKeptS.mono_l : ∀ k, (∀ y0 y1 y2, LeO (laws_heldKeptS.l0 k y0 y1 y2) (laws_heldKeptS.l0 (k + 1) y0 y1 y2))
 | 0 => fun _ _ _ r h => by simp [laws_heldKeptS.l0] at h
 | k + 1 => by
  have ih0 := laws_heldKeptS.mono_l k
  ·intro y0 y1 y2
   unfold laws_heldKeptS.l0
   repeat' first
   | (with_reducible exact ih0 _ _ _)
   | (with_reducible exact laws_markText.mono _ _)
   | (with_reducible exact LeO.refl _)
   | (with_reducible exact LeO.none _)
   | (with_reducible refine LeO.ite ?_ ?_)
   | (with_reducible refine LeO.bind ?_ (fun _ => ?_))
   | exact ih0 _ _ _
   | exact laws_markText.mono _ _
   | exact LeO.none _
   | refine LeO.ite ?_ ?_
   | refine LeO.bind ?_ (fun _ => ?_)
theorem laws_heldKeptS.mono : ∀ a0 a1 k, LeO (laws_heldKeptS.f k a0 a1) (laws_heldKeptS.f (k + 1) a0 a1) := by
 intro a0 a1 k
 have ih0 := laws_heldKeptS.mono_l k
 unfold laws_heldKeptS.f
 repeat' first
   | (with_reducible exact ih0 _ _ _)
   | (with_reducible exact laws_markText.mono _ _)
   | (with_reducible exact LeO.refl _)
   | (with_reducible exact LeO.none _)
   | (with_reducible refine LeO.ite ?_ ?_)
   | (with_reducible refine LeO.bind ?_ (fun _ => ?_))
   | exact ih0 _ _ _
   | exact laws_markText.mono _ _
   | exact LeO.none _
   | refine LeO.ite ?_ ?_
   | refine LeO.bind ?_ (fun _ => ?_)
def laws_heldKeptS.T4 : Bool × List (List Nat × List Nat) := (true, [([], []), ([], []), ([0, 1], [0, 1]), ([2], [2]), ([3], [3]), ([4], [4]), ([], []), ([6], [6]), ([5, 7], [5, 7])])
def laws_heldKeptS.B4 : List Nat := [0, 0, 3, 7, 15, 31, 0, 64, 255]
theorem laws_heldKeptS.tab4 : rtab .any (opsOf Try.f53 4) = laws_heldKeptS.T4 := z_0
theorem laws_heldKeptS.bits4 : waitsOk laws_heldKeptS.T4.2 laws_heldKeptS.B4 = true := z_0
def laws_heldKeptS.T13 : Bool × List (List Nat × List Nat) := (true, [([], []), ([], []), ([0, 1], [0, 1]), ([2], [2]), ([3], [3]), ([4], [4]), ([], []), ([6], [6]), ([5, 7], [5, 7])])
def laws_heldKeptS.B13 : List Nat := [0, 0, 3, 7, 15, 31, 0, 64, 255]
theorem laws_heldKeptS.tab13 : rtab .any (opsOf Try.f53 13) = laws_heldKeptS.T13 := z_0
theorem laws_heldKeptS.bits13 : waitsOk laws_heldKeptS.T13.2 laws_heldKeptS.B13 = true := z_0
set_option maxHeartbeats 8000000 in
set_option maxRecDepth 100000 in
theorem laws_heldKeptS.calls (k : Nat) (A0 : Option Addr) (c0 : Nat) (l0 : List (S83)) (a1 : Int) (r : Int) (w : World) (hr0 : Kd.C k83 w A0 l0.length l0) (hc0 : l0.length ≤ c0) (h : laws_heldKeptS.f k l0 a1 = some r) :
  Calls Try.prog 53 #[.slice A0 l0.length c0, .int .i64 a1] w fun e w' => e = .returned (.int .i64 r) ∧ Below w.heap.size w w' := by
 have HR0 := Aside0.mk hr0
 have HC0 := Aside0.mk hc0
 clear hr0 hc0
 have HB := Aside0.mk (Below.refl w.heap.size w)
 have H : (laws_heldKeptS.l0 k l0 a1 0) = some r := h
 clear h
 have H' := Aside0.mk H
 clear H
 go_enter Try.func53, Try.ntmps53
 go_wp2
 go_loopg [1, 5] k (fun kq v1 v5 w' => ∃ (x1_1 : Int) (x5_1 : Int), v1 = .int .i64 x1_1 ∧ v5 = .int .i64 x5_1 ∧ Aside0 (laws_heldKeptS.l0 kq l0 x1_1 x5_1 = some r) ∧ Aside0 (kq ≤ k) ∧ Aside0 (Below w.heap.size w w'))
 case atStart => exact ⟨(a1), (0), (z_6), (z_6), H', ⟨Nat.le_refl _⟩, ⟨z_2⟩⟩
 case round =>
  clear H'
  try clear p2
  obtain ⟨x1_1, x5_1, rfl, rfl, HA, HK1, HB⟩ := hrel
  cases gk with
  | zero => exact absurd HA.out (by simp [laws_heldKeptS.l0])
  | succ k1 =>
   have H := HA.out
   clear HA
   simp only [laws_heldKeptS.l0] at H
   by_cases c3 : x5_1 < (l0.length : Int)
   ·rw [if_pos c3] at H
    have c3b0 : decide (x5_1 < (l0.length : Int)) = true := decide_eq_true c3
    clear c3
    by_cases c4 : 0 ≤ x5_1
    ·rw [if_pos c4] at H
     have c4b0 : decide (0 ≤ x5_1) = true := decide_eq_true c4
     clear c4
     replace H := Option.bind_eq_some_iff.mp H
     obtain ⟨t351, A50, H⟩ := H
     have A5 := Aside0.mk A50
     clear A50
     by_cases c6 : ((rd_T83 l0 x5_1).f0.f0).toList = t351.toList
     ·rw [if_pos c6] at H
      have c6b0 : (((rd_T83 l0 x5_1).f0.f0).toList == t351.toList) = true := beq_iff_eq.mpr c6
      have c6b1 : (((rd_T83 l0 x5_1).f0.f0).toList != t351.toList) = false := bne_eq_false_iff_eq.mpr c6
      clear c6
      by_cases c7 : ((rd_T83 l0 x5_1).f0.f1) = (wrap64 (x1_1 + 1))
      ·rw [if_pos c7] at H
       have c7b0 : (((rd_T83 l0 x5_1).f0.f1) == (wrap64 (x1_1 + 1))) = true := beq_iff_eq.mpr c7
       have c7b1 : (((rd_T83 l0 x5_1).f0.f1) != (wrap64 (x1_1 + 1))) = false := bne_eq_false_iff_eq.mpr c7
       clear c7
       by_cases c8 : ((rd_T83 l0 x5_1).f0.f2) = (wrap64 ((wrap64 (x1_1 + 1)) + 1))
       ·rw [if_pos c8] at H
        have c8b0 : (((rd_T83 l0 x5_1).f0.f2) == (wrap64 ((wrap64 (x1_1 + 1)) + 1))) = true := beq_iff_eq.mpr c8
        have c8b1 : (((rd_T83 l0 x5_1).f0.f2) != (wrap64 ((wrap64 (x1_1 + 1)) + 1))) = false := bne_eq_false_iff_eq.mpr c8
        clear c8
        replace H := Option.bind_eq_some_iff.mp H
        obtain ⟨t355, A90, H⟩ := H
        have A9 := Aside0.mk A90
        clear A90
        by_cases c10 : ((rd_T83 l0 x5_1).f0.f3).toList = t355.toList
        ·rw [if_pos c10] at H
         have c10b0 : (((rd_T83 l0 x5_1).f0.f3).toList == t355.toList) = true := beq_iff_eq.mpr c10
         have c10b1 : (((rd_T83 l0 x5_1).f0.f3).toList != t355.toList) = false := bne_eq_false_iff_eq.mpr c10
         clear c10
         by_cases c11 : ((rd_T83 l0 x5_1).f0.f4) = (wrap64 ((wrap64 ((wrap64 ((wrap64 (x1_1 + 1)) + 1)) + 1)) + 1))
         ·rw [if_pos c11] at H
          have c11b0 : (((rd_T83 l0 x5_1).f0.f4) == (wrap64 ((wrap64 ((wrap64 ((wrap64 (x1_1 + 1)) + 1)) + 1)) + 1))) = true := beq_iff_eq.mpr c11
          have c11b1 : (((rd_T83 l0 x5_1).f0.f4) != (wrap64 ((wrap64 ((wrap64 ((wrap64 (x1_1 + 1)) + 1)) + 1)) + 1))) = false := bne_eq_false_iff_eq.mpr c11
          clear c11
          by_cases c12 : ((rd_T83 l0 x5_1).f1) = (wrap64 ((wrap64 ((wrap64 ((wrap64 ((wrap64 (x1_1 + 1)) + 1)) + 1)) + 1)) + 1))
          ·rw [if_pos c12] at H
           have c12b0 : (((rd_T83 l0 x5_1).f1) == (wrap64 ((wrap64 ((wrap64 ((wrap64 ((wrap64 (x1_1 + 1)) + 1)) + 1)) + 1)) + 1))) = true := beq_iff_eq.mpr c12
           have c12b1 : (((rd_T83 l0 x5_1).f1) != (wrap64 ((wrap64 ((wrap64 ((wrap64 ((wrap64 (x1_1 + 1)) + 1)) + 1)) + 1)) + 1))) = false := bne_eq_false_iff_eq.mpr c12
           clear c12
           have H' := Aside0.mk H
           clear H
           try go_wp2
           have n0_ := Aside0.mk (below_drew1 HB.out)
           clear HB
           have HB := n0_
           clear n0_
           have p350 : 0 ≤ (x5_1 : Int) := of_decide_eq_true (z_7)
           have q350 : x5_1 < (l0.length : Int) := of_decide_eq_true (z_7)
           obtain ⟨ad350, e350, hx350_0, hx350_1, hx350_2, hx350_3, hx350_4, hx350_5⟩ := at_T83 HR0.out x5_1 p350 q350
           have hw350_5 := hx350_5
           have hw350_4 := hx350_4
           have hw350_3 := hx350_3
           have hw350_2 := hx350_2
           have hw350_1 := hx350_1
           have hw350_0 := hx350_0
           cases e350
           replace hx350_0 := pw_cell_below HB.out hx350_0
           replace hx350_1 := pw_cell_below HB.out hx350_1
           replace hx350_2 := pw_cell_below HB.out hx350_2
           replace hx350_3 := pw_cell_below HB.out hx350_3
           replace hx350_4 := pw_cell_below HB.out hx350_4
           replace hx350_5 := pw_cell_below HB.out hx350_5
           replace p350 := eq_true p350
           replace q350 := eq_true q350
           refine start_ (n := 9) (S := fun w' => w'.cell? (ad350.add ((x5_1).toNat * 6)) = some (.string ((rd_T83 l0 x5_1).f0.f0)) ∧ w'.cell? ⟨(ad350.add ((x5_1).toNat * 6)).block, (ad350.add ((x5_1).toNat * 6)).off + 1, none⟩ = some (.int .i64 ((rd_T83 l0 x5_1).f0.f1)) ∧ w'.cell? ⟨(ad350.add ((x5_1).toNat * 6)).block, (ad350.add ((x5_1).toNat * 6)).off + 2, none⟩ = some (.int .i64 ((rd_T83 l0 x5_1).f0.f2)) ∧ w'.cell? ⟨(ad350.add ((x5_1).toNat * 6)).block, (ad350.add ((x5_1).toNat * 6)).off + 3, none⟩ = some (.string ((rd_T83 l0 x5_1).f0.f3)) ∧ w'.cell? ⟨(ad350.add ((x5_1).toNat * 6)).block, (ad350.add ((x5_1).toNat * 6)).off + 4, none⟩ = some (.int .i64 ((rd_T83 l0 x5_1).f0.f4)) ∧ w'.cell? ⟨(ad350.add ((x5_1).toNat * 6)).block, (ad350.add ((x5_1).toNat * 6)).off + 5, none⟩ = some (.int .i64 ((rd_T83 l0 x5_1).f1))) (ds := []) #[F,F,F,F,F,F,F,F,F] (z_0) rfl rfl ⟨(pw_cell_below HB.out hw350_0), (pw_cell_below HB.out hw350_1), (pw_cell_below HB.out hw350_2), (pw_cell_below HB.out hw350_3), (pw_cell_below HB.out hw350_4), (pw_cell_below HB.out hw350_5)⟩ (fun hHeld => ?_); refine with_tabW laws_heldKeptS.tab4 laws_heldKeptS.bits4 (fun HT_ HW_ => ?_)
           generalize wr.drew = w13 at HB hx350_0 hx350_1 hx350_2 hx350_3 hx350_4 hx350_5 hHeld ⊢
           refine pure_ (i := 0) (N := some 12) (v := ?_) (a' := ?_) #[T,F,F,F,F,F,F,F,F] rfl rfl (any_of HT_.out (z_0)) (fun _ _ _ h => h) (Or.inl ⟨z_30, ?_⟩) ?_ ?_
           rotate_left
           ·intro w'
            go_simp
            with_reducible rfl
           rotate_left
           ·simp only [Act.put, List.setIfInBounds_toArray, List.set_cons_zero, List.set_cons_succ, i64_w, i32_w]
            rfl
           refine pure_ (i := 1) (N := some 13) (v := ?_) (a' := ?_) #[T,T,F,F,F,F,F,F,F] rfl rfl (any_of HT_.out (z_0)) (fun _ _ _ h => h) (Or.inl ⟨z_30, ?_⟩) ?_ ?_
           rotate_left
           ·intro w'
            go_simp
            with_reducible rfl
           rotate_left
           ·simp only [Act.put, List.setIfInBounds_toArray, List.set_cons_zero, List.set_cons_succ, i64_w, i32_w]
            rfl
           refine pure_ (i := 2) (N := some 14) (v := ?_) (a' := ?_) #[T,T,T,F,F,F,F,F,F] rfl rfl (any_of HT_.out (z_0)) (fun _ _ _ h => h) (Or.inl ⟨z_30, ?_⟩) ?_ ?_
           rotate_left
           ·intro w'
            go_simp
            with_reducible rfl
           rotate_left
           ·simp only [Act.put, List.setIfInBounds_toArray, List.set_cons_zero, List.set_cons_succ, i64_w, i32_w]
            rfl
           refine pure_ (i := 3) (N := some 15) (v := ?_) (a' := ?_) #[T,T,T,T,F,F,F,F,F] rfl rfl (any_of HT_.out (z_0)) (fun _ _ _ h => h) (Or.inl ⟨z_30, ?_⟩) ?_ ?_
           rotate_left
           ·intro w'
            go_simp
            with_reducible rfl
           rotate_left
           ·simp only [Act.put, List.setIfInBounds_toArray, List.set_cons_zero, List.set_cons_succ, i64_w, i32_w]
            rfl
           refine pure_ (i := 4) (N := some 16) (v := ?_) (a' := ?_) #[T,T,T,T,T,F,F,F,F] rfl rfl (any_of HT_.out (z_0)) (fun _ _ _ h => h) (Or.inl ⟨z_30, ?_⟩) ?_ ?_
           rotate_left
           ·intro w'
            go_simp
            with_reducible rfl
           rotate_left
           ·simp only [Act.put, List.setIfInBounds_toArray, List.set_cons_zero, List.set_cons_succ, i64_w, i32_w]
            rfl
           refine pure_ (i := 6) (N := some 18) (v := ?_) (a' := ?_) #[T,T,T,T,T,F,T,F,F] rfl rfl (any_of HT_.out (z_0)) (fun _ _ _ h => h) (Or.inl ⟨z_30, ?_⟩) ?_ ?_
           rotate_left
           ·intro w'
            go_simp
            with_reducible rfl
           rotate_left
           ·simp only [Act.put, List.setIfInBounds_toArray, List.set_cons_zero, List.set_cons_succ, i64_w, i32_w]
            rfl
           refine take_ (i := 5) (N := some 17) (v := ?_) (a' := ?_) #[T,T,T,T,T,T,T,F,F] rfl rfl (take_ofW HT_.out HW_.out (z_0)) (fun _ _ _ h => h) (Or.inl ⟨z_30, ?_⟩) hHeld ?_ ?_
           rotate_left
           ·rintro w' ⟨s0, s1, s2, s3, s4, s5⟩
            go_simp
            with_reducible rfl
           rotate_left
           ·simp only [Act.put, List.setIfInBounds_toArray, List.set_cons_zero, List.set_cons_succ, i64_w, i32_w]
            rfl
           refine one_ (i := 7) (N := some 19) #[T,T,T,T,T,T,T,T,F] rfl rfl (one_of HT_.out (z_0)) (z_19) (fun K hK => ?_)
           refine goes_ Try.func77 (z_0) rfl #[.int .i64 x1_1] (z_30) rfl rfl (z_8) ?_
           with_reducible refine (laws_markText.calls k1 x1_1 t351 _ A5.out).mono ?_
           rintro e w14 ⟨rfl, hb⟩
           refine ⟨_, rfl, ?_⟩
           have n0_ := Aside0.mk (below_step (z_2) hb)
           clear HB
           have HB := n0_
           clear n0_
           (try clear hb)
           (try clear hb2)
           (try clear hk)
           (try clear hi)
           refine hK.out _ _ ⟨(pw_cell_below HB.out hw350_0), (pw_cell_below HB.out hw350_1), (pw_cell_below HB.out hw350_2), (pw_cell_below HB.out hw350_3), (pw_cell_below HB.out hw350_4), (pw_cell_below HB.out hw350_5)⟩ (fun hHeld => ?_)
           clear hK K
           refine norm_ (a' := ?_) ?_ ?_
           rotate_left
           ·show Act.put _ (some 19) _ = _
            simp only [Act.put, List.setIfInBounds_toArray, List.set_cons_zero, List.set_cons_succ, i64_w, i32_w]
            rfl
           refine pure_ (i := 8) (N := some 20) (v := ?_) (a' := ?_) #[T,T,T,T,T,T,T,T,T] rfl rfl (any_of HT_.out (z_0)) (fun _ _ _ h => h) (Or.inl ⟨z_30, ?_⟩) ?_ ?_
           rotate_left
           ·intro w'
            go_simp
            with_reducible rfl
           rotate_left
           ·simp only [Act.put, List.setIfInBounds_toArray, List.set_cons_zero, List.set_cons_succ, i64_w, i32_w]
            rfl
           refine done_ (done_of HT_.out (z_0)) ?_
           have p352 : 0 ≤ (x5_1 : Int) := of_decide_eq_true (z_7)
           have q352 : x5_1 < (l0.length : Int) := of_decide_eq_true (z_7)
           obtain ⟨ad352, e352, hx352_0, hx352_1, hx352_2, hx352_3, hx352_4, hx352_5⟩ := at_T83 HR0.out x5_1 p352 q352
           obtain rfl : ad350 = ad352 := (by injection e352)
           replace hx352_0 := pw_cell_below HB.out hx352_0
           replace hx352_1 := pw_cell_below HB.out hx352_1
           replace hx352_2 := pw_cell_below HB.out hx352_2
           replace hx352_3 := pw_cell_below HB.out hx352_3
           replace hx352_4 := pw_cell_below HB.out hx352_4
           replace hx352_5 := pw_cell_below HB.out hx352_5
           replace p352 := eq_true p352
           replace q352 := eq_true q352
           have p353 : 0 ≤ (x5_1 : Int) := of_decide_eq_true (z_7)
           have q353 : x5_1 < (l0.length : Int) := of_decide_eq_true (z_7)
           obtain ⟨ad353, e353, hx353_0, hx353_1, hx353_2, hx353_3, hx353_4, hx353_5⟩ := at_T83 HR0.out x5_1 p353 q353
           obtain rfl : ad350 = ad353 := (by injection e353)
           replace hx353_0 := pw_cell_below HB.out hx353_0
           replace hx353_1 := pw_cell_below HB.out hx353_1
           replace hx353_2 := pw_cell_below HB.out hx353_2
           replace hx353_3 := pw_cell_below HB.out hx353_3
           replace hx353_4 := pw_cell_below HB.out hx353_4
           replace hx353_5 := pw_cell_below HB.out hx353_5
           replace p353 := eq_true p353
           replace q353 := eq_true q353
           try go_wp2
           have n0_ := Aside0.mk (below_drew1 HB.out)
           clear HB
           have HB := n0_
           clear n0_
           have p354 : 0 ≤ (x5_1 : Int) := of_decide_eq_true (z_7)
           have q354 : x5_1 < (l0.length : Int) := of_decide_eq_true (z_7)
           obtain ⟨ad354, e354, hx354_0, hx354_1, hx354_2, hx354_3, hx354_4, hx354_5⟩ := at_T83 HR0.out x5_1 p354 q354
           have hw354_5 := hx354_5
           have hw354_4 := hx354_4
           have hw354_3 := hx354_3
           have hw354_2 := hx354_2
           have hw354_1 := hx354_1
           have hw354_0 := hx354_0
           obtain rfl : ad350 = ad354 := (by injection e354)
           replace hx354_0 := pw_cell_below HB.out hx354_0
           replace hx354_1 := pw_cell_below HB.out hx354_1
           replace hx354_2 := pw_cell_below HB.out hx354_2
           replace hx354_3 := pw_cell_below HB.out hx354_3
           replace hx354_4 := pw_cell_below HB.out hx354_4
           replace hx354_5 := pw_cell_below HB.out hx354_5
           replace p354 := eq_true p354
           replace q354 := eq_true q354
           refine start_ (n := 9) (S := fun w' => w'.cell? (ad350.add ((x5_1).toNat * 6)) = some (.string ((rd_T83 l0 x5_1).f0.f0)) ∧ w'.cell? ⟨(ad350.add ((x5_1).toNat * 6)).block, (ad350.add ((x5_1).toNat * 6)).off + 1, none⟩ = some (.int .i64 ((rd_T83 l0 x5_1).f0.f1)) ∧ w'.cell? ⟨(ad350.add ((x5_1).toNat * 6)).block, (ad350.add ((x5_1).toNat * 6)).off + 2, none⟩ = some (.int .i64 ((rd_T83 l0 x5_1).f0.f2)) ∧ w'.cell? ⟨(ad350.add ((x5_1).toNat * 6)).block, (ad350.add ((x5_1).toNat * 6)).off + 3, none⟩ = some (.string ((rd_T83 l0 x5_1).f0.f3)) ∧ w'.cell? ⟨(ad350.add ((x5_1).toNat * 6)).block, (ad350.add ((x5_1).toNat * 6)).off + 4, none⟩ = some (.int .i64 ((rd_T83 l0 x5_1).f0.f4)) ∧ w'.cell? ⟨(ad350.add ((x5_1).toNat * 6)).block, (ad350.add ((x5_1).toNat * 6)).off + 5, none⟩ = some (.int .i64 ((rd_T83 l0 x5_1).f1))) (ds := []) #[F,F,F,F,F,F,F,F,F] (z_0) rfl rfl ⟨(pw_cell_below HB.out hw354_0), (pw_cell_below HB.out hw354_1), (pw_cell_below HB.out hw354_2), (pw_cell_below HB.out hw354_3), (pw_cell_below HB.out hw354_4), (pw_cell_below HB.out hw354_5)⟩ (fun hHeld => ?_); refine with_tabW laws_heldKeptS.tab13 laws_heldKeptS.bits13 (fun HT_ HW_ => ?_)
           generalize w14.drew = w15 at HB hx354_0 hx354_1 hx354_2 hx354_3 hx354_4 hx354_5 hHeld ⊢
           refine pure_ (i := 0) (N := some 43) (v := ?_) (a' := ?_) #[T,F,F,F,F,F,F,F,F] rfl rfl (any_of HT_.out (z_0)) (fun _ _ _ h => h) (Or.inl ⟨z_30, ?_⟩) ?_ ?_
           rotate_left
           ·intro w'
            go_simp
            with_reducible rfl
           rotate_left
           ·simp only [Act.put, List.setIfInBounds_toArray, List.set_cons_zero, List.set_cons_succ, i64_w, i32_w]
            rfl
           refine pure_ (i := 1) (N := some 44) (v := ?_) (a' := ?_) #[T,T,F,F,F,F,F,F,F] rfl rfl (any_of HT_.out (z_0)) (fun _ _ _ h => h) (Or.inl ⟨z_30, ?_⟩) ?_ ?_
           rotate_left
           ·intro w'
            go_simp
            with_reducible rfl
           rotate_left
           ·simp only [Act.put, List.setIfInBounds_toArray, List.set_cons_zero, List.set_cons_succ, i64_w, i32_w]
            rfl
           refine pure_ (i := 2) (N := some 45) (v := ?_) (a' := ?_) #[T,T,T,F,F,F,F,F,F] rfl rfl (any_of HT_.out (z_0)) (fun _ _ _ h => h) (Or.inl ⟨z_30, ?_⟩) ?_ ?_
           rotate_left
           ·intro w'
            go_simp
            with_reducible rfl
           rotate_left
           ·simp only [Act.put, List.setIfInBounds_toArray, List.set_cons_zero, List.set_cons_succ, i64_w, i32_w]
            rfl
           refine pure_ (i := 3) (N := some 46) (v := ?_) (a' := ?_) #[T,T,T,T,F,F,F,F,F] rfl rfl (any_of HT_.out (z_0)) (fun _ _ _ h => h) (Or.inl ⟨z_30, ?_⟩) ?_ ?_
           rotate_left
           ·intro w'
            go_simp
            with_reducible rfl
           rotate_left
           ·simp only [Act.put, List.setIfInBounds_toArray, List.set_cons_zero, List.set_cons_succ, i64_w, i32_w]
            rfl
           refine pure_ (i := 4) (N := some 47) (v := ?_) (a' := ?_) #[T,T,T,T,T,F,F,F,F] rfl rfl (any_of HT_.out (z_0)) (fun _ _ _ h => h) (Or.inl ⟨z_30, ?_⟩) ?_ ?_
           rotate_left
           ·intro w'
            go_simp
            with_reducible rfl
           rotate_left
           ·simp only [Act.put, List.setIfInBounds_toArray, List.set_cons_zero, List.set_cons_succ, i64_w, i32_w]
            rfl
           refine pure_ (i := 6) (N := some 49) (v := ?_) (a' := ?_) #[T,T,T,T,T,F,T,F,F] rfl rfl (any_of HT_.out (z_0)) (fun _ _ _ h => h) (Or.inl ⟨z_30, ?_⟩) ?_ ?_
           rotate_left
           ·intro w'
            go_simp
            with_reducible rfl
           rotate_left
           ·simp only [Act.put, List.setIfInBounds_toArray, List.set_cons_zero, List.set_cons_succ, i64_w, i32_w]
            rfl
           refine take_ (i := 5) (N := some 48) (v := ?_) (a' := ?_) #[T,T,T,T,T,T,T,F,F] rfl rfl (take_ofW HT_.out HW_.out (z_0)) (fun _ _ _ h => h) (Or.inl ⟨z_30, ?_⟩) hHeld ?_ ?_
           rotate_left
           ·rintro w' ⟨s0, s1, s2, s3, s4, s5⟩
            go_simp
            with_reducible rfl
           rotate_left
           ·simp only [Act.put, List.setIfInBounds_toArray, List.set_cons_zero, List.set_cons_succ, i64_w, i32_w]
            rfl
           refine one_ (i := 7) (N := some 50) #[T,T,T,T,T,T,T,T,F] rfl rfl (one_of HT_.out (z_0)) (z_19) (fun K hK => ?_)
           refine goes_ Try.func77 (z_0) rfl #[.int .i64 (wrap64 ((wrap64 ((wrap64 (x1_1 + 1)) + 1)) + 1))] (z_30) rfl rfl (z_8) ?_
           with_reducible refine (laws_markText.calls k1 (wrap64 ((wrap64 ((wrap64 (x1_1 + 1)) + 1)) + 1)) t355 _ A9.out).mono ?_
           rintro e w16 ⟨rfl, hb⟩
           refine ⟨_, rfl, ?_⟩
           have n0_ := Aside0.mk (below_step (z_2) hb)
           clear HB
           have HB := n0_
           clear n0_
           (try clear hb)
           (try clear hb2)
           (try clear hk)
           (try clear hi)
           refine hK.out _ _ ⟨(pw_cell_below HB.out hw354_0), (pw_cell_below HB.out hw354_1), (pw_cell_below HB.out hw354_2), (pw_cell_below HB.out hw354_3), (pw_cell_below HB.out hw354_4), (pw_cell_below HB.out hw354_5)⟩ (fun hHeld => ?_)
           clear hK K
           refine norm_ (a' := ?_) ?_ ?_
           rotate_left
           ·show Act.put _ (some 50) _ = _
            simp only [Act.put, List.setIfInBounds_toArray, List.set_cons_zero, List.set_cons_succ, i64_w, i32_w]
            rfl
           refine pure_ (i := 8) (N := some 51) (v := ?_) (a' := ?_) #[T,T,T,T,T,T,T,T,T] rfl rfl (any_of HT_.out (z_0)) (fun _ _ _ h => h) (Or.inl ⟨z_30, ?_⟩) ?_ ?_
           rotate_left
           ·intro w'
            go_simp
            with_reducible rfl
           rotate_left
           ·simp only [Act.put, List.setIfInBounds_toArray, List.set_cons_zero, List.set_cons_succ, i64_w, i32_w]
            rfl
           refine done_ (done_of HT_.out (z_0)) ?_
           have p356 : 0 ≤ (x5_1 : Int) := of_decide_eq_true (z_7)
           have q356 : x5_1 < (l0.length : Int) := of_decide_eq_true (z_7)
           obtain ⟨ad356, e356, hx356_0, hx356_1, hx356_2, hx356_3, hx356_4, hx356_5⟩ := at_T83 HR0.out x5_1 p356 q356
           obtain rfl : ad350 = ad356 := (by injection e356)
           replace hx356_0 := pw_cell_below HB.out hx356_0
           replace hx356_1 := pw_cell_below HB.out hx356_1
           replace hx356_2 := pw_cell_below HB.out hx356_2
           replace hx356_3 := pw_cell_below HB.out hx356_3
           replace hx356_4 := pw_cell_below HB.out hx356_4
           replace hx356_5 := pw_cell_below HB.out hx356_5
           replace p356 := eq_true p356
           replace q356 := eq_true q356
           have p357 : 0 ≤ (x5_1 : Int) := of_decide_eq_true (z_7)
           have q357 : x5_1 < (l0.length : Int) := of_decide_eq_true (z_7)
           obtain ⟨ad357, e357, hx357_0, hx357_1, hx357_2, hx357_3, hx357_4, hx357_5⟩ := at_T83 HR0.out x5_1 p357 q357
           obtain rfl : ad350 = ad357 := (by injection e357)
           replace hx357_0 := pw_cell_below HB.out hx357_0
           replace hx357_1 := pw_cell_below HB.out hx357_1
           replace hx357_2 := pw_cell_below HB.out hx357_2
           replace hx357_3 := pw_cell_below HB.out hx357_3
           replace hx357_4 := pw_cell_below HB.out hx357_4
           replace hx357_5 := pw_cell_below HB.out hx357_5
           replace p357 := eq_true p357
           replace q357 := eq_true q357
           try go_wp2
           go_roundg k1
           case measure => have := HK1.out; omega
           case rel => exact ⟨(wrap64 ((wrap64 ((wrap64 ((wrap64 ((wrap64 ((wrap64 (x1_1 + 1)) + 1)) + 1)) + 1)) + 1)) + 1)), (wrap64 (x5_1 + 1)), (z_6), (z_6), H', ⟨z_9⟩, ⟨z_2⟩⟩
          ·rw [if_neg c12] at H
           have c12b0 : (((rd_T83 l0 x5_1).f1) == (wrap64 ((wrap64 ((wrap64 ((wrap64 ((wrap64 (x1_1 + 1)) + 1)) + 1)) + 1)) + 1))) = false := beq_eq_false_iff_ne.mpr c12
           have c12b1 : (((rd_T83 l0 x5_1).f1) != (wrap64 ((wrap64 ((wrap64 ((wrap64 ((wrap64 (x1_1 + 1)) + 1)) + 1)) + 1)) + 1))) = true := bne_iff_ne.mpr c12
           obtain rfl := Option.some.inj H
           try go_wp2
           have n0_ := Aside0.mk (below_drew1 HB.out)
           clear HB
           have HB := n0_
           clear n0_
           have p350 : 0 ≤ (x5_1 : Int) := of_decide_eq_true (z_7)
           have q350 : x5_1 < (l0.length : Int) := of_decide_eq_true (z_7)
           obtain ⟨ad350, e350, hx350_0, hx350_1, hx350_2, hx350_3, hx350_4, hx350_5⟩ := at_T83 HR0.out x5_1 p350 q350
           have hw350_5 := hx350_5
           have hw350_4 := hx350_4
           have hw350_3 := hx350_3
           have hw350_2 := hx350_2
           have hw350_1 := hx350_1
           have hw350_0 := hx350_0
           cases e350
           replace hx350_0 := pw_cell_below HB.out hx350_0
           replace hx350_1 := pw_cell_below HB.out hx350_1
           replace hx350_2 := pw_cell_below HB.out hx350_2
           replace hx350_3 := pw_cell_below HB.out hx350_3
           replace hx350_4 := pw_cell_below HB.out hx350_4
           replace hx350_5 := pw_cell_below HB.out hx350_5
           replace p350 := eq_true p350
           replace q350 := eq_true q350
           refine start_ (n := 9) (S := fun w' => w'.cell? (ad350.add ((x5_1).toNat * 6)) = some (.string ((rd_T83 l0 x5_1).f0.f0)) ∧ w'.cell? ⟨(ad350.add ((x5_1).toNat * 6)).block, (ad350.add ((x5_1).toNat * 6)).off + 1, none⟩ = some (.int .i64 ((rd_T83 l0 x5_1).f0.f1)) ∧ w'.cell? ⟨(ad350.add ((x5_1).toNat * 6)).block, (ad350.add ((x5_1).toNat * 6)).off + 2, none⟩ = some (.int .i64 ((rd_T83 l0 x5_1).f0.f2)) ∧ w'.cell? ⟨(ad350.add ((x5_1).toNat * 6)).block, (ad350.add ((x5_1).toNat * 6)).off + 3, none⟩ = some (.string ((rd_T83 l0 x5_1).f0.f3)) ∧ w'.cell? ⟨(ad350.add ((x5_1).toNat * 6)).block, (ad350.add ((x5_1).toNat * 6)).off + 4, none⟩ = some (.int .i64 ((rd_T83 l0 x5_1).f0.f4)) ∧ w'.cell? ⟨(ad350.add ((x5_1).toNat * 6)).block, (ad350.add ((x5_1).toNat * 6)).off + 5, none⟩ = some (.int .i64 ((rd_T83 l0 x5_1).f1))) (ds := []) #[F,F,F,F,F,F,F,F,F] (z_0) rfl rfl ⟨(pw_cell_below HB.out hw350_0), (pw_cell_below HB.out hw350_1), (pw_cell_below HB.out hw350_2), (pw_cell_below HB.out hw350_3), (pw_cell_below HB.out hw350_4), (pw_cell_below HB.out hw350_5)⟩ (fun hHeld => ?_); refine with_tabW laws_heldKeptS.tab4 laws_heldKeptS.bits4 (fun HT_ HW_ => ?_)
           generalize wr.drew = w17 at HB hx350_0 hx350_1 hx350_2 hx350_3 hx350_4 hx350_5 hHeld ⊢
           refine pure_ (i := 0) (N := some 12) (v := ?_) (a' := ?_) #[T,F,F,F,F,F,F,F,F] rfl rfl (any_of HT_.out (z_0)) (fun _ _ _ h => h) (Or.inl ⟨z_30, ?_⟩) ?_ ?_
           rotate_left
           ·intro w'
            go_simp
            with_reducible rfl
           rotate_left
           ·simp only [Act.put, List.setIfInBounds_toArray, List.set_cons_zero, List.set_cons_succ, i64_w, i32_w]
            rfl
           refine pure_ (i := 1) (N := some 13) (v := ?_) (a' := ?_) #[T,T,F,F,F,F,F,F,F] rfl rfl (any_of HT_.out (z_0)) (fun _ _ _ h => h) (Or.inl ⟨z_30, ?_⟩) ?_ ?_
           rotate_left
           ·intro w'
            go_simp
            with_reducible rfl
           rotate_left
           ·simp only [Act.put, List.setIfInBounds_toArray, List.set_cons_zero, List.set_cons_succ, i64_w, i32_w]
            rfl
           refine pure_ (i := 2) (N := some 14) (v := ?_) (a' := ?_) #[T,T,T,F,F,F,F,F,F] rfl rfl (any_of HT_.out (z_0)) (fun _ _ _ h => h) (Or.inl ⟨z_30, ?_⟩) ?_ ?_
           rotate_left
           ·intro w'
            go_simp
            with_reducible rfl
           rotate_left
           ·simp only [Act.put, List.setIfInBounds_toArray, List.set_cons_zero, List.set_cons_succ, i64_w, i32_w]
            rfl
           refine pure_ (i := 3) (N := some 15) (v := ?_) (a' := ?_) #[T,T,T,T,F,F,F,F,F] rfl rfl (any_of HT_.out (z_0)) (fun _ _ _ h => h) (Or.inl ⟨z_30, ?_⟩) ?_ ?_
           rotate_left
           ·intro w'
            go_simp
            with_reducible rfl
           rotate_left
           ·simp only [Act.put, List.setIfInBounds_toArray, List.set_cons_zero, List.set_cons_succ, i64_w, i32_w]
            rfl
           refine pure_ (i := 4) (N := some 16) (v := ?_) (a' := ?_) #[T,T,T,T,T,F,F,F,F] rfl rfl (any_of HT_.out (z_0)) (fun _ _ _ h => h) (Or.inl ⟨z_30, ?_⟩) ?_ ?_
           rotate_left
           ·intro w'
            go_simp
            with_reducible rfl
           rotate_left
           ·simp only [Act.put, List.setIfInBounds_toArray, List.set_cons_zero, List.set_cons_succ, i64_w, i32_w]
            rfl
           refine pure_ (i := 6) (N := some 18) (v := ?_) (a' := ?_) #[T,T,T,T,T,F,T,F,F] rfl rfl (any_of HT_.out (z_0)) (fun _ _ _ h => h) (Or.inl ⟨z_30, ?_⟩) ?_ ?_
           rotate_left
           ·intro w'
            go_simp
            with_reducible rfl
           rotate_left
           ·simp only [Act.put, List.setIfInBounds_toArray, List.set_cons_zero, List.set_cons_succ, i64_w, i32_w]
            rfl
           refine take_ (i := 5) (N := some 17) (v := ?_) (a' := ?_) #[T,T,T,T,T,T,T,F,F] rfl rfl (take_ofW HT_.out HW_.out (z_0)) (fun _ _ _ h => h) (Or.inl ⟨z_30, ?_⟩) hHeld ?_ ?_
           rotate_left
           ·rintro w' ⟨s0, s1, s2, s3, s4, s5⟩
            go_simp
            with_reducible rfl
           rotate_left
           ·simp only [Act.put, List.setIfInBounds_toArray, List.set_cons_zero, List.set_cons_succ, i64_w, i32_w]
            rfl
           refine one_ (i := 7) (N := some 19) #[T,T,T,T,T,T,T,T,F] rfl rfl (one_of HT_.out (z_0)) (z_19) (fun K hK => ?_)
           refine goes_ Try.func77 (z_0) rfl #[.int .i64 x1_1] (z_30) rfl rfl (z_8) ?_
           with_reducible refine (laws_markText.calls k1 x1_1 t351 _ A5.out).mono ?_
           rintro e w18 ⟨rfl, hb⟩
           refine ⟨_, rfl, ?_⟩
           have n0_ := Aside0.mk (below_step (z_2) hb)
           clear HB
           have HB := n0_
           clear n0_
           (try clear hb)
           (try clear hb2)
           (try clear hk)
           (try clear hi)
           refine hK.out _ _ ⟨(pw_cell_below HB.out hw350_0), (pw_cell_below HB.out hw350_1), (pw_cell_below HB.out hw350_2), (pw_cell_below HB.out hw350_3), (pw_cell_below HB.out hw350_4), (pw_cell_below HB.out hw350_5)⟩ (fun hHeld => ?_)
           clear hK K
           refine norm_ (a' := ?_) ?_ ?_
           rotate_left
           ·show Act.put _ (some 19) _ = _
            simp only [Act.put, List.setIfInBounds_toArray, List.set_cons_zero, List.set_cons_succ, i64_w, i32_w]
            rfl
           refine pure_ (i := 8) (N := some 20) (v := ?_) (a' := ?_) #[T,T,T,T,T,T,T,T,T] rfl rfl (any_of HT_.out (z_0)) (fun _ _ _ h => h) (Or.inl ⟨z_30, ?_⟩) ?_ ?_
           rotate_left
           ·intro w'
            go_simp
            with_reducible rfl
           rotate_left
           ·simp only [Act.put, List.setIfInBounds_toArray, List.set_cons_zero, List.set_cons_succ, i64_w, i32_w]
            rfl
           refine done_ (done_of HT_.out (z_0)) ?_
           have p352 : 0 ≤ (x5_1 : Int) := of_decide_eq_true (z_7)
           have q352 : x5_1 < (l0.length : Int) := of_decide_eq_true (z_7)
           obtain ⟨ad352, e352, hx352_0, hx352_1, hx352_2, hx352_3, hx352_4, hx352_5⟩ := at_T83 HR0.out x5_1 p352 q352
           obtain rfl : ad350 = ad352 := (by injection e352)
           replace hx352_0 := pw_cell_below HB.out hx352_0
           replace hx352_1 := pw_cell_below HB.out hx352_1
           replace hx352_2 := pw_cell_below HB.out hx352_2
           replace hx352_3 := pw_cell_below HB.out hx352_3
           replace hx352_4 := pw_cell_below HB.out hx352_4
           replace hx352_5 := pw_cell_below HB.out hx352_5
           replace p352 := eq_true p352
           replace q352 := eq_true q352
           have p353 : 0 ≤ (x5_1 : Int) := of_decide_eq_true (z_7)
           have q353 : x5_1 < (l0.length : Int) := of_decide_eq_true (z_7)
           obtain ⟨ad353, e353, hx353_0, hx353_1, hx353_2, hx353_3, hx353_4, hx353_5⟩ := at_T83 HR0.out x5_1 p353 q353
           obtain rfl : ad350 = ad353 := (by injection e353)
           replace hx353_0 := pw_cell_below HB.out hx353_0
           replace hx353_1 := pw_cell_below HB.out hx353_1
           replace hx353_2 := pw_cell_below HB.out hx353_2
           replace hx353_3 := pw_cell_below HB.out hx353_3
           replace hx353_4 := pw_cell_below HB.out hx353_4
           replace hx353_5 := pw_cell_below HB.out hx353_5
           replace p353 := eq_true p353
           replace q353 := eq_true q353
           try go_wp2
           have n0_ := Aside0.mk (below_drew1 HB.out)
           clear HB
           have HB := n0_
           clear n0_
           have p354 : 0 ≤ (x5_1 : Int) := of_decide_eq_true (z_7)
           have q354 : x5_1 < (l0.length : Int) := of_decide_eq_true (z_7)
           obtain ⟨ad354, e354, hx354_0, hx354_1, hx354_2, hx354_3, hx354_4, hx354_5⟩ := at_T83 HR0.out x5_1 p354 q354
           have hw354_5 := hx354_5
           have hw354_4 := hx354_4
           have hw354_3 := hx354_3
           have hw354_2 := hx354_2
           have hw354_1 := hx354_1
           have hw354_0 := hx354_0
           obtain rfl : ad350 = ad354 := (by injection e354)
           replace hx354_0 := pw_cell_below HB.out hx354_0
           replace hx354_1 := pw_cell_below HB.out hx354_1
           replace hx354_2 := pw_cell_below HB.out hx354_2
           replace hx354_3 := pw_cell_below HB.out hx354_3
           replace hx354_4 := pw_cell_below HB.out hx354_4
           replace hx354_5 := pw_cell_below HB.out hx354_5
           replace p354 := eq_true p354
           replace q354 := eq_true q354
           refine start_ (n := 9) (S := fun w' => w'.cell? (ad350.add ((x5_1).toNat * 6)) = some (.string ((rd_T83 l0 x5_1).f0.f0)) ∧ w'.cell? ⟨(ad350.add ((x5_1).toNat * 6)).block, (ad350.add ((x5_1).toNat * 6)).off + 1, none⟩ = some (.int .i64 ((rd_T83 l0 x5_1).f0.f1)) ∧ w'.cell? ⟨(ad350.add ((x5_1).toNat * 6)).block, (ad350.add ((x5_1).toNat * 6)).off + 2, none⟩ = some (.int .i64 ((rd_T83 l0 x5_1).f0.f2)) ∧ w'.cell? ⟨(ad350.add ((x5_1).toNat * 6)).block, (ad350.add ((x5_1).toNat * 6)).off + 3, none⟩ = some (.string ((rd_T83 l0 x5_1).f0.f3)) ∧ w'.cell? ⟨(ad350.add ((x5_1).toNat * 6)).block, (ad350.add ((x5_1).toNat * 6)).off + 4, none⟩ = some (.int .i64 ((rd_T83 l0 x5_1).f0.f4)) ∧ w'.cell? ⟨(ad350.add ((x5_1).toNat * 6)).block, (ad350.add ((x5_1).toNat * 6)).off + 5, none⟩ = some (.int .i64 ((rd_T83 l0 x5_1).f1))) (ds := []) #[F,F,F,F,F,F,F,F,F] (z_0) rfl rfl ⟨(pw_cell_below HB.out hw354_0), (pw_cell_below HB.out hw354_1), (pw_cell_below HB.out hw354_2), (pw_cell_below HB.out hw354_3), (pw_cell_below HB.out hw354_4), (pw_cell_below HB.out hw354_5)⟩ (fun hHeld => ?_); refine with_tabW laws_heldKeptS.tab13 laws_heldKeptS.bits13 (fun HT_ HW_ => ?_)
           generalize w18.drew = w19 at HB hx354_0 hx354_1 hx354_2 hx354_3 hx354_4 hx354_5 hHeld ⊢
           refine pure_ (i := 0) (N := some 43) (v := ?_) (a' := ?_) #[T,F,F,F,F,F,F,F,F] rfl rfl (any_of HT_.out (z_0)) (fun _ _ _ h => h) (Or.inl ⟨z_30, ?_⟩) ?_ ?_
           rotate_left
           ·intro w'
            go_simp
            with_reducible rfl
           rotate_left
           ·simp only [Act.put, List.setIfInBounds_toArray, List.set_cons_zero, List.set_cons_succ, i64_w, i32_w]
            rfl
           refine pure_ (i := 1) (N := some 44) (v := ?_) (a' := ?_) #[T,T,F,F,F,F,F,F,F] rfl rfl (any_of HT_.out (z_0)) (fun _ _ _ h => h) (Or.inl ⟨z_30, ?_⟩) ?_ ?_
           rotate_left
           ·intro w'
            go_simp
            with_reducible rfl
           rotate_left
           ·simp only [Act.put, List.setIfInBounds_toArray, List.set_cons_zero, List.set_cons_succ, i64_w, i32_w]
            rfl
           refine pure_ (i := 2) (N := some 45) (v := ?_) (a' := ?_) #[T,T,T,F,F,F,F,F,F] rfl rfl (any_of HT_.out (z_0)) (fun _ _ _ h => h) (Or.inl ⟨z_30, ?_⟩) ?_ ?_
           rotate_left
           ·intro w'
            go_simp
            with_reducible rfl
           rotate_left
           ·simp only [Act.put, List.setIfInBounds_toArray, List.set_cons_zero, List.set_cons_succ, i64_w, i32_w]
            rfl
           refine pure_ (i := 3) (N := some 46) (v := ?_) (a' := ?_) #[T,T,T,T,F,F,F,F,F] rfl rfl (any_of HT_.out (z_0)) (fun _ _ _ h => h) (Or.inl ⟨z_30, ?_⟩) ?_ ?_
           rotate_left
           ·intro w'
            go_simp
            with_reducible rfl
           rotate_left
           ·simp only [Act.put, List.setIfInBounds_toArray, List.set_cons_zero, List.set_cons_succ, i64_w, i32_w]
            rfl
           refine pure_ (i := 4) (N := some 47) (v := ?_) (a' := ?_) #[T,T,T,T,T,F,F,F,F] rfl rfl (any_of HT_.out (z_0)) (fun _ _ _ h => h) (Or.inl ⟨z_30, ?_⟩) ?_ ?_
           rotate_left
           ·intro w'
            go_simp
            with_reducible rfl
           rotate_left
           ·simp only [Act.put, List.setIfInBounds_toArray, List.set_cons_zero, List.set_cons_succ, i64_w, i32_w]
            rfl
           refine pure_ (i := 6) (N := some 49) (v := ?_) (a' := ?_) #[T,T,T,T,T,F,T,F,F] rfl rfl (any_of HT_.out (z_0)) (fun _ _ _ h => h) (Or.inl ⟨z_30, ?_⟩) ?_ ?_
           rotate_left
           ·intro w'
            go_simp
            with_reducible rfl
           rotate_left
           ·simp only [Act.put, List.setIfInBounds_toArray, List.set_cons_zero, List.set_cons_succ, i64_w, i32_w]
            rfl
           refine take_ (i := 5) (N := some 48) (v := ?_) (a' := ?_) #[T,T,T,T,T,T,T,F,F] rfl rfl (take_ofW HT_.out HW_.out (z_0)) (fun _ _ _ h => h) (Or.inl ⟨z_30, ?_⟩) hHeld ?_ ?_
           rotate_left
           ·rintro w' ⟨s0, s1, s2, s3, s4, s5⟩
            go_simp
            with_reducible rfl
           rotate_left
           ·simp only [Act.put, List.setIfInBounds_toArray, List.set_cons_zero, List.set_cons_succ, i64_w, i32_w]
            rfl
           refine one_ (i := 7) (N := some 50) #[T,T,T,T,T,T,T,T,F] rfl rfl (one_of HT_.out (z_0)) (z_19) (fun K hK => ?_)
           refine goes_ Try.func77 (z_0) rfl #[.int .i64 (wrap64 ((wrap64 ((wrap64 (x1_1 + 1)) + 1)) + 1))] (z_30) rfl rfl (z_8) ?_
           with_reducible refine (laws_markText.calls k1 (wrap64 ((wrap64 ((wrap64 (x1_1 + 1)) + 1)) + 1)) t355 _ A9.out).mono ?_
           rintro e w20 ⟨rfl, hb⟩
           refine ⟨_, rfl, ?_⟩
           have n0_ := Aside0.mk (below_step (z_2) hb)
           clear HB
           have HB := n0_
           clear n0_
           (try clear hb)
           (try clear hb2)
           (try clear hk)
           (try clear hi)
           refine hK.out _ _ ⟨(pw_cell_below HB.out hw354_0), (pw_cell_below HB.out hw354_1), (pw_cell_below HB.out hw354_2), (pw_cell_below HB.out hw354_3), (pw_cell_below HB.out hw354_4), (pw_cell_below HB.out hw354_5)⟩ (fun hHeld => ?_)
           clear hK K
           refine norm_ (a' := ?_) ?_ ?_
           rotate_left
           ·show Act.put _ (some 50) _ = _
            simp only [Act.put, List.setIfInBounds_toArray, List.set_cons_zero, List.set_cons_succ, i64_w, i32_w]
            rfl
           refine pure_ (i := 8) (N := some 51) (v := ?_) (a' := ?_) #[T,T,T,T,T,T,T,T,T] rfl rfl (any_of HT_.out (z_0)) (fun _ _ _ h => h) (Or.inl ⟨z_30, ?_⟩) ?_ ?_
           rotate_left
           ·intro w'
            go_simp
            with_reducible rfl
           rotate_left
           ·simp only [Act.put, List.setIfInBounds_toArray, List.set_cons_zero, List.set_cons_succ, i64_w, i32_w]
            rfl
           refine done_ (done_of HT_.out (z_0)) ?_
           have p356 : 0 ≤ (x5_1 : Int) := of_decide_eq_true (z_7)
           have q356 : x5_1 < (l0.length : Int) := of_decide_eq_true (z_7)
           obtain ⟨ad356, e356, hx356_0, hx356_1, hx356_2, hx356_3, hx356_4, hx356_5⟩ := at_T83 HR0.out x5_1 p356 q356
           obtain rfl : ad350 = ad356 := (by injection e356)
           replace hx356_0 := pw_cell_below HB.out hx356_0
           replace hx356_1 := pw_cell_below HB.out hx356_1
           replace hx356_2 := pw_cell_below HB.out hx356_2
           replace hx356_3 := pw_cell_below HB.out hx356_3
           replace hx356_4 := pw_cell_below HB.out hx356_4
           replace hx356_5 := pw_cell_below HB.out hx356_5
           replace p356 := eq_true p356
           replace q356 := eq_true q356
           have p357 : 0 ≤ (x5_1 : Int) := of_decide_eq_true (z_7)
           have q357 : x5_1 < (l0.length : Int) := of_decide_eq_true (z_7)
           obtain ⟨ad357, e357, hx357_0, hx357_1, hx357_2, hx357_3, hx357_4, hx357_5⟩ := at_T83 HR0.out x5_1 p357 q357
           obtain rfl : ad350 = ad357 := (by injection e357)
           replace hx357_0 := pw_cell_below HB.out hx357_0
           replace hx357_1 := pw_cell_below HB.out hx357_1
           replace hx357_2 := pw_cell_below HB.out hx357_2
           replace hx357_3 := pw_cell_below HB.out hx357_3
           replace hx357_4 := pw_cell_below HB.out hx357_4
           replace hx357_5 := pw_cell_below HB.out hx357_5
           replace p357 := eq_true p357
           replace q357 := eq_true q357
           try go_wp2
           go_ret
           exact ⟨z_4, z_2⟩
         ·rw [if_neg c11] at H
          have c11b0 : (((rd_T83 l0 x5_1).f0.f4) == (wrap64 ((wrap64 ((wrap64 ((wrap64 (x1_1 + 1)) + 1)) + 1)) + 1))) = false := beq_eq_false_iff_ne.mpr c11
          have c11b1 : (((rd_T83 l0 x5_1).f0.f4) != (wrap64 ((wrap64 ((wrap64 ((wrap64 (x1_1 + 1)) + 1)) + 1)) + 1))) = true := bne_iff_ne.mpr c11
          obtain rfl := Option.some.inj H
          try go_wp2
          have n0_ := Aside0.mk (below_drew1 HB.out)
          clear HB
          have HB := n0_
          clear n0_
          have p350 : 0 ≤ (x5_1 : Int) := of_decide_eq_true (z_7)
          have q350 : x5_1 < (l0.length : Int) := of_decide_eq_true (z_7)
          obtain ⟨ad350, e350, hx350_0, hx350_1, hx350_2, hx350_3, hx350_4, hx350_5⟩ := at_T83 HR0.out x5_1 p350 q350
          have hw350_5 := hx350_5
          have hw350_4 := hx350_4
          have hw350_3 := hx350_3
          have hw350_2 := hx350_2
          have hw350_1 := hx350_1
          have hw350_0 := hx350_0
          cases e350
          replace hx350_0 := pw_cell_below HB.out hx350_0
          replace hx350_1 := pw_cell_below HB.out hx350_1
          replace hx350_2 := pw_cell_below HB.out hx350_2
          replace hx350_3 := pw_cell_below HB.out hx350_3
          replace hx350_4 := pw_cell_below HB.out hx350_4
          replace hx350_5 := pw_cell_below HB.out hx350_5
          replace p350 := eq_true p350
          replace q350 := eq_true q350
          refine start_ (n := 9) (S := fun w' => w'.cell? (ad350.add ((x5_1).toNat * 6)) = some (.string ((rd_T83 l0 x5_1).f0.f0)) ∧ w'.cell? ⟨(ad350.add ((x5_1).toNat * 6)).block, (ad350.add ((x5_1).toNat * 6)).off + 1, none⟩ = some (.int .i64 ((rd_T83 l0 x5_1).f0.f1)) ∧ w'.cell? ⟨(ad350.add ((x5_1).toNat * 6)).block, (ad350.add ((x5_1).toNat * 6)).off + 2, none⟩ = some (.int .i64 ((rd_T83 l0 x5_1).f0.f2)) ∧ w'.cell? ⟨(ad350.add ((x5_1).toNat * 6)).block, (ad350.add ((x5_1).toNat * 6)).off + 3, none⟩ = some (.string ((rd_T83 l0 x5_1).f0.f3)) ∧ w'.cell? ⟨(ad350.add ((x5_1).toNat * 6)).block, (ad350.add ((x5_1).toNat * 6)).off + 4, none⟩ = some (.int .i64 ((rd_T83 l0 x5_1).f0.f4)) ∧ w'.cell? ⟨(ad350.add ((x5_1).toNat * 6)).block, (ad350.add ((x5_1).toNat * 6)).off + 5, none⟩ = some (.int .i64 ((rd_T83 l0 x5_1).f1))) (ds := []) #[F,F,F,F,F,F,F,F,F] (z_0) rfl rfl ⟨(pw_cell_below HB.out hw350_0), (pw_cell_below HB.out hw350_1), (pw_cell_below HB.out hw350_2), (pw_cell_below HB.out hw350_3), (pw_cell_below HB.out hw350_4), (pw_cell_below HB.out hw350_5)⟩ (fun hHeld => ?_); refine with_tabW laws_heldKeptS.tab4 laws_heldKeptS.bits4 (fun HT_ HW_ => ?_)
          generalize wr.drew = w21 at HB hx350_0 hx350_1 hx350_2 hx350_3 hx350_4 hx350_5 hHeld ⊢
          refine pure_ (i := 0) (N := some 12) (v := ?_) (a' := ?_) #[T,F,F,F,F,F,F,F,F] rfl rfl (any_of HT_.out (z_0)) (fun _ _ _ h => h) (Or.inl ⟨z_30, ?_⟩) ?_ ?_
          rotate_left
          ·intro w'
           go_simp
           with_reducible rfl
          rotate_left
          ·simp only [Act.put, List.setIfInBounds_toArray, List.set_cons_zero, List.set_cons_succ, i64_w, i32_w]
           rfl
          refine pure_ (i := 1) (N := some 13) (v := ?_) (a' := ?_) #[T,T,F,F,F,F,F,F,F] rfl rfl (any_of HT_.out (z_0)) (fun _ _ _ h => h) (Or.inl ⟨z_30, ?_⟩) ?_ ?_
          rotate_left
          ·intro w'
           go_simp
           with_reducible rfl
          rotate_left
          ·simp only [Act.put, List.setIfInBounds_toArray, List.set_cons_zero, List.set_cons_succ, i64_w, i32_w]
           rfl
          refine pure_ (i := 2) (N := some 14) (v := ?_) (a' := ?_) #[T,T,T,F,F,F,F,F,F] rfl rfl (any_of HT_.out (z_0)) (fun _ _ _ h => h) (Or.inl ⟨z_30, ?_⟩) ?_ ?_
          rotate_left
          ·intro w'
           go_simp
           with_reducible rfl
          rotate_left
          ·simp only [Act.put, List.setIfInBounds_toArray, List.set_cons_zero, List.set_cons_succ, i64_w, i32_w]
           rfl
          refine pure_ (i := 3) (N := some 15) (v := ?_) (a' := ?_) #[T,T,T,T,F,F,F,F,F] rfl rfl (any_of HT_.out (z_0)) (fun _ _ _ h => h) (Or.inl ⟨z_30, ?_⟩) ?_ ?_
          rotate_left
          ·intro w'
           go_simp
           with_reducible rfl
          rotate_left
          ·simp only [Act.put, List.setIfInBounds_toArray, List.set_cons_zero, List.set_cons_succ, i64_w, i32_w]
           rfl
          refine pure_ (i := 4) (N := some 16) (v := ?_) (a' := ?_) #[T,T,T,T,T,F,F,F,F] rfl rfl (any_of HT_.out (z_0)) (fun _ _ _ h => h) (Or.inl ⟨z_30, ?_⟩) ?_ ?_
          rotate_left
          ·intro w'
           go_simp
           with_reducible rfl
          rotate_left
          ·simp only [Act.put, List.setIfInBounds_toArray, List.set_cons_zero, List.set_cons_succ, i64_w, i32_w]
           rfl
          refine pure_ (i := 6) (N := some 18) (v := ?_) (a' := ?_) #[T,T,T,T,T,F,T,F,F] rfl rfl (any_of HT_.out (z_0)) (fun _ _ _ h => h) (Or.inl ⟨z_30, ?_⟩) ?_ ?_
          rotate_left
          ·intro w'
           go_simp
           with_reducible rfl
          rotate_left
          ·simp only [Act.put, List.setIfInBounds_toArray, List.set_cons_zero, List.set_cons_succ, i64_w, i32_w]
           rfl
          refine take_ (i := 5) (N := some 17) (v := ?_) (a' := ?_) #[T,T,T,T,T,T,T,F,F] rfl rfl (take_ofW HT_.out HW_.out (z_0)) (fun _ _ _ h => h) (Or.inl ⟨z_30, ?_⟩) hHeld ?_ ?_
          rotate_left
          ·rintro w' ⟨s0, s1, s2, s3, s4, s5⟩
           go_simp
           with_reducible rfl
          rotate_left
          ·simp only [Act.put, List.setIfInBounds_toArray, List.set_cons_zero, List.set_cons_succ, i64_w, i32_w]
           rfl
          refine one_ (i := 7) (N := some 19) #[T,T,T,T,T,T,T,T,F] rfl rfl (one_of HT_.out (z_0)) (z_19) (fun K hK => ?_)
          refine goes_ Try.func77 (z_0) rfl #[.int .i64 x1_1] (z_30) rfl rfl (z_8) ?_
          with_reducible refine (laws_markText.calls k1 x1_1 t351 _ A5.out).mono ?_
          rintro e w22 ⟨rfl, hb⟩
          refine ⟨_, rfl, ?_⟩
          have n0_ := Aside0.mk (below_step (z_2) hb)
          clear HB
          have HB := n0_
          clear n0_
          (try clear hb)
          (try clear hb2)
          (try clear hk)
          (try clear hi)
          refine hK.out _ _ ⟨(pw_cell_below HB.out hw350_0), (pw_cell_below HB.out hw350_1), (pw_cell_below HB.out hw350_2), (pw_cell_below HB.out hw350_3), (pw_cell_below HB.out hw350_4), (pw_cell_below HB.out hw350_5)⟩ (fun hHeld => ?_)
          clear hK K
          refine norm_ (a' := ?_) ?_ ?_
          rotate_left
          ·show Act.put _ (some 19) _ = _
           simp only [Act.put, List.setIfInBounds_toArray, List.set_cons_zero, List.set_cons_succ, i64_w, i32_w]
           rfl
          refine pure_ (i := 8) (N := some 20) (v := ?_) (a' := ?_) #[T,T,T,T,T,T,T,T,T] rfl rfl (any_of HT_.out (z_0)) (fun _ _ _ h => h) (Or.inl ⟨z_30, ?_⟩) ?_ ?_
          rotate_left
          ·intro w'
           go_simp
           with_reducible rfl
          rotate_left
          ·simp only [Act.put, List.setIfInBounds_toArray, List.set_cons_zero, List.set_cons_succ, i64_w, i32_w]
           rfl
          refine done_ (done_of HT_.out (z_0)) ?_
          have p352 : 0 ≤ (x5_1 : Int) := of_decide_eq_true (z_7)
          have q352 : x5_1 < (l0.length : Int) := of_decide_eq_true (z_7)
          obtain ⟨ad352, e352, hx352_0, hx352_1, hx352_2, hx352_3, hx352_4, hx352_5⟩ := at_T83 HR0.out x5_1 p352 q352
          obtain rfl : ad350 = ad352 := (by injection e352)
          replace hx352_0 := pw_cell_below HB.out hx352_0
          replace hx352_1 := pw_cell_below HB.out hx352_1
          replace hx352_2 := pw_cell_below HB.out hx352_2
          replace hx352_3 := pw_cell_below HB.out hx352_3
          replace hx352_4 := pw_cell_below HB.out hx352_4
          replace hx352_5 := pw_cell_below HB.out hx352_5
          replace p352 := eq_true p352
          replace q352 := eq_true q352
          have p353 : 0 ≤ (x5_1 : Int) := of_decide_eq_true (z_7)
          have q353 : x5_1 < (l0.length : Int) := of_decide_eq_true (z_7)
          obtain ⟨ad353, e353, hx353_0, hx353_1, hx353_2, hx353_3, hx353_4, hx353_5⟩ := at_T83 HR0.out x5_1 p353 q353
          obtain rfl : ad350 = ad353 := (by injection e353)
          replace hx353_0 := pw_cell_below HB.out hx353_0
          replace hx353_1 := pw_cell_below HB.out hx353_1
          replace hx353_2 := pw_cell_below HB.out hx353_2
          replace hx353_3 := pw_cell_below HB.out hx353_3
          replace hx353_4 := pw_cell_below HB.out hx353_4
          replace hx353_5 := pw_cell_below HB.out hx353_5
          replace p353 := eq_true p353
          replace q353 := eq_true q353
          try go_wp2
          have n0_ := Aside0.mk (below_drew1 HB.out)
          clear HB
          have HB := n0_
          clear n0_
          have p354 : 0 ≤ (x5_1 : Int) := of_decide_eq_true (z_7)
          have q354 : x5_1 < (l0.length : Int) := of_decide_eq_true (z_7)
          obtain ⟨ad354, e354, hx354_0, hx354_1, hx354_2, hx354_3, hx354_4, hx354_5⟩ := at_T83 HR0.out x5_1 p354 q354
          have hw354_5 := hx354_5
          have hw354_4 := hx354_4
          have hw354_3 := hx354_3
          have hw354_2 := hx354_2
          have hw354_1 := hx354_1
          have hw354_0 := hx354_0
          obtain rfl : ad350 = ad354 := (by injection e354)
          replace hx354_0 := pw_cell_below HB.out hx354_0
          replace hx354_1 := pw_cell_below HB.out hx354_1
          replace hx354_2 := pw_cell_below HB.out hx354_2
          replace hx354_3 := pw_cell_below HB.out hx354_3
          replace hx354_4 := pw_cell_below HB.out hx354_4
          replace hx354_5 := pw_cell_below HB.out hx354_5
          replace p354 := eq_true p354
          replace q354 := eq_true q354
          refine start_ (n := 9) (S := fun w' => w'.cell? (ad350.add ((x5_1).toNat * 6)) = some (.string ((rd_T83 l0 x5_1).f0.f0)) ∧ w'.cell? ⟨(ad350.add ((x5_1).toNat * 6)).block, (ad350.add ((x5_1).toNat * 6)).off + 1, none⟩ = some (.int .i64 ((rd_T83 l0 x5_1).f0.f1)) ∧ w'.cell? ⟨(ad350.add ((x5_1).toNat * 6)).block, (ad350.add ((x5_1).toNat * 6)).off + 2, none⟩ = some (.int .i64 ((rd_T83 l0 x5_1).f0.f2)) ∧ w'.cell? ⟨(ad350.add ((x5_1).toNat * 6)).block, (ad350.add ((x5_1).toNat * 6)).off + 3, none⟩ = some (.string ((rd_T83 l0 x5_1).f0.f3)) ∧ w'.cell? ⟨(ad350.add ((x5_1).toNat * 6)).block, (ad350.add ((x5_1).toNat * 6)).off + 4, none⟩ = some (.int .i64 ((rd_T83 l0 x5_1).f0.f4)) ∧ w'.cell? ⟨(ad350.add ((x5_1).toNat * 6)).block, (ad350.add ((x5_1).toNat * 6)).off + 5, none⟩ = some (.int .i64 ((rd_T83 l0 x5_1).f1))) (ds := []) #[F,F,F,F,F,F,F,F,F] (z_0) rfl rfl ⟨(pw_cell_below HB.out hw354_0), (pw_cell_below HB.out hw354_1), (pw_cell_below HB.out hw354_2), (pw_cell_below HB.out hw354_3), (pw_cell_below HB.out hw354_4), (pw_cell_below HB.out hw354_5)⟩ (fun hHeld => ?_); refine with_tabW laws_heldKeptS.tab13 laws_heldKeptS.bits13 (fun HT_ HW_ => ?_)
          generalize w22.drew = w23 at HB hx354_0 hx354_1 hx354_2 hx354_3 hx354_4 hx354_5 hHeld ⊢
          refine pure_ (i := 0) (N := some 43) (v := ?_) (a' := ?_) #[T,F,F,F,F,F,F,F,F] rfl rfl (any_of HT_.out (z_0)) (fun _ _ _ h => h) (Or.inl ⟨z_30, ?_⟩) ?_ ?_
          rotate_left
          ·intro w'
           go_simp
           with_reducible rfl
          rotate_left
          ·simp only [Act.put, List.setIfInBounds_toArray, List.set_cons_zero, List.set_cons_succ, i64_w, i32_w]
           rfl
          refine pure_ (i := 1) (N := some 44) (v := ?_) (a' := ?_) #[T,T,F,F,F,F,F,F,F] rfl rfl (any_of HT_.out (z_0)) (fun _ _ _ h => h) (Or.inl ⟨z_30, ?_⟩) ?_ ?_
          rotate_left
          ·intro w'
           go_simp
           with_reducible rfl
          rotate_left
          ·simp only [Act.put, List.setIfInBounds_toArray, List.set_cons_zero, List.set_cons_succ, i64_w, i32_w]
           rfl
          refine pure_ (i := 2) (N := some 45) (v := ?_) (a' := ?_) #[T,T,T,F,F,F,F,F,F] rfl rfl (any_of HT_.out (z_0)) (fun _ _ _ h => h) (Or.inl ⟨z_30, ?_⟩) ?_ ?_
          rotate_left
          ·intro w'
           go_simp
           with_reducible rfl
          rotate_left
          ·simp only [Act.put, List.setIfInBounds_toArray, List.set_cons_zero, List.set_cons_succ, i64_w, i32_w]
           rfl
          refine pure_ (i := 3) (N := some 46) (v := ?_) (a' := ?_) #[T,T,T,T,F,F,F,F,F] rfl rfl (any_of HT_.out (z_0)) (fun _ _ _ h => h) (Or.inl ⟨z_30, ?_⟩) ?_ ?_
          rotate_left
          ·intro w'
           go_simp
           with_reducible rfl
          rotate_left
          ·simp only [Act.put, List.setIfInBounds_toArray, List.set_cons_zero, List.set_cons_succ, i64_w, i32_w]
           rfl
          refine pure_ (i := 4) (N := some 47) (v := ?_) (a' := ?_) #[T,T,T,T,T,F,F,F,F] rfl rfl (any_of HT_.out (z_0)) (fun _ _ _ h => h) (Or.inl ⟨z_30, ?_⟩) ?_ ?_
          rotate_left
          ·intro w'
           go_simp
           with_reducible rfl
          rotate_left
          ·simp only [Act.put, List.setIfInBounds_toArray, List.set_cons_zero, List.set_cons_succ, i64_w, i32_w]
           rfl
          refine pure_ (i := 6) (N := some 49) (v := ?_) (a' := ?_) #[T,T,T,T,T,F,T,F,F] rfl rfl (any_of HT_.out (z_0)) (fun _ _ _ h => h) (Or.inl ⟨z_30, ?_⟩) ?_ ?_
          rotate_left
          ·intro w'
           go_simp
           with_reducible rfl
          rotate_left
          ·simp only [Act.put, List.setIfInBounds_toArray, List.set_cons_zero, List.set_cons_succ, i64_w, i32_w]
           rfl
          refine take_ (i := 5) (N := some 48) (v := ?_) (a' := ?_) #[T,T,T,T,T,T,T,F,F] rfl rfl (take_ofW HT_.out HW_.out (z_0)) (fun _ _ _ h => h) (Or.inl ⟨z_30, ?_⟩) hHeld ?_ ?_
          rotate_left
          ·rintro w' ⟨s0, s1, s2, s3, s4, s5⟩
           go_simp
           with_reducible rfl
          rotate_left
          ·simp only [Act.put, List.setIfInBounds_toArray, List.set_cons_zero, List.set_cons_succ, i64_w, i32_w]
           rfl
          refine one_ (i := 7) (N := some 50) #[T,T,T,T,T,T,T,T,F] rfl rfl (one_of HT_.out (z_0)) (z_19) (fun K hK => ?_)
          refine goes_ Try.func77 (z_0) rfl #[.int .i64 (wrap64 ((wrap64 ((wrap64 (x1_1 + 1)) + 1)) + 1))] (z_30) rfl rfl (z_8) ?_
          with_reducible refine (laws_markText.calls k1 (wrap64 ((wrap64 ((wrap64 (x1_1 + 1)) + 1)) + 1)) t355 _ A9.out).mono ?_
          rintro e w24 ⟨rfl, hb⟩
          refine ⟨_, rfl, ?_⟩
          have n0_ := Aside0.mk (below_step (z_2) hb)
          clear HB
          have HB := n0_
          clear n0_
          (try clear hb)
          (try clear hb2)
          (try clear hk)
          (try clear hi)
          refine hK.out _ _ ⟨(pw_cell_below HB.out hw354_0), (pw_cell_below HB.out hw354_1), (pw_cell_below HB.out hw354_2), (pw_cell_below HB.out hw354_3), (pw_cell_below HB.out hw354_4), (pw_cell_below HB.out hw354_5)⟩ (fun hHeld => ?_)
          clear hK K
          refine norm_ (a' := ?_) ?_ ?_
          rotate_left
          ·show Act.put _ (some 50) _ = _
           simp only [Act.put, List.setIfInBounds_toArray, List.set_cons_zero, List.set_cons_succ, i64_w, i32_w]
           rfl
          refine pure_ (i := 8) (N := some 51) (v := ?_) (a' := ?_) #[T,T,T,T,T,T,T,T,T] rfl rfl (any_of HT_.out (z_0)) (fun _ _ _ h => h) (Or.inl ⟨z_30, ?_⟩) ?_ ?_
          rotate_left
          ·intro w'
           go_simp
           with_reducible rfl
          rotate_left
          ·simp only [Act.put, List.setIfInBounds_toArray, List.set_cons_zero, List.set_cons_succ, i64_w, i32_w]
           rfl
          refine done_ (done_of HT_.out (z_0)) ?_
          have p356 : 0 ≤ (x5_1 : Int) := of_decide_eq_true (z_7)
          have q356 : x5_1 < (l0.length : Int) := of_decide_eq_true (z_7)
          obtain ⟨ad356, e356, hx356_0, hx356_1, hx356_2, hx356_3, hx356_4, hx356_5⟩ := at_T83 HR0.out x5_1 p356 q356
          obtain rfl : ad350 = ad356 := (by injection e356)
          replace hx356_0 := pw_cell_below HB.out hx356_0
          replace hx356_1 := pw_cell_below HB.out hx356_1
          replace hx356_2 := pw_cell_below HB.out hx356_2
          replace hx356_3 := pw_cell_below HB.out hx356_3
          replace hx356_4 := pw_cell_below HB.out hx356_4
          replace hx356_5 := pw_cell_below HB.out hx356_5
          replace p356 := eq_true p356
          replace q356 := eq_true q356
          try go_wp2
          go_ret
          exact ⟨z_4, z_2⟩
        ·rw [if_neg c10] at H
         have c10b0 : (((rd_T83 l0 x5_1).f0.f3).toList == t355.toList) = false := beq_eq_false_iff_ne.mpr c10
         have c10b1 : (((rd_T83 l0 x5_1).f0.f3).toList != t355.toList) = true := bne_iff_ne.mpr c10
         obtain rfl := Option.some.inj H
         try go_wp2
         have n0_ := Aside0.mk (below_drew1 HB.out)
         clear HB
         have HB := n0_
         clear n0_
         have p350 : 0 ≤ (x5_1 : Int) := of_decide_eq_true (z_7)
         have q350 : x5_1 < (l0.length : Int) := of_decide_eq_true (z_7)
         obtain ⟨ad350, e350, hx350_0, hx350_1, hx350_2, hx350_3, hx350_4, hx350_5⟩ := at_T83 HR0.out x5_1 p350 q350
         have hw350_5 := hx350_5
         have hw350_4 := hx350_4
         have hw350_3 := hx350_3
         have hw350_2 := hx350_2
         have hw350_1 := hx350_1
         have hw350_0 := hx350_0
         cases e350
         replace hx350_0 := pw_cell_below HB.out hx350_0
         replace hx350_1 := pw_cell_below HB.out hx350_1
         replace hx350_2 := pw_cell_below HB.out hx350_2
         replace hx350_3 := pw_cell_below HB.out hx350_3
         replace hx350_4 := pw_cell_below HB.out hx350_4
         replace hx350_5 := pw_cell_below HB.out hx350_5
         replace p350 := eq_true p350
         replace q350 := eq_true q350
         refine start_ (n := 9) (S := fun w' => w'.cell? (ad350.add ((x5_1).toNat * 6)) = some (.string ((rd_T83 l0 x5_1).f0.f0)) ∧ w'.cell? ⟨(ad350.add ((x5_1).toNat * 6)).block, (ad350.add ((x5_1).toNat * 6)).off + 1, none⟩ = some (.int .i64 ((rd_T83 l0 x5_1).f0.f1)) ∧ w'.cell? ⟨(ad350.add ((x5_1).toNat * 6)).block, (ad350.add ((x5_1).toNat * 6)).off + 2, none⟩ = some (.int .i64 ((rd_T83 l0 x5_1).f0.f2)) ∧ w'.cell? ⟨(ad350.add ((x5_1).toNat * 6)).block, (ad350.add ((x5_1).toNat * 6)).off + 3, none⟩ = some (.string ((rd_T83 l0 x5_1).f0.f3)) ∧ w'.cell? ⟨(ad350.add ((x5_1).toNat * 6)).block, (ad350.add ((x5_1).toNat * 6)).off + 4, none⟩ = some (.int .i64 ((rd_T83 l0 x5_1).f0.f4)) ∧ w'.cell? ⟨(ad350.add ((x5_1).toNat * 6)).block, (ad350.add ((x5_1).toNat * 6)).off + 5, none⟩ = some (.int .i64 ((rd_T83 l0 x5_1).f1))) (ds := []) #[F,F,F,F,F,F,F,F,F] (z_0) rfl rfl ⟨(pw_cell_below HB.out hw350_0), (pw_cell_below HB.out hw350_1), (pw_cell_below HB.out hw350_2), (pw_cell_below HB.out hw350_3), (pw_cell_below HB.out hw350_4), (pw_cell_below HB.out hw350_5)⟩ (fun hHeld => ?_); refine with_tabW laws_heldKeptS.tab4 laws_heldKeptS.bits4 (fun HT_ HW_ => ?_)
         generalize wr.drew = w25 at HB hx350_0 hx350_1 hx350_2 hx350_3 hx350_4 hx350_5 hHeld ⊢
         refine pure_ (i := 0) (N := some 12) (v := ?_) (a' := ?_) #[T,F,F,F,F,F,F,F,F] rfl rfl (any_of HT_.out (z_0)) (fun _ _ _ h => h) (Or.inl ⟨z_30, ?_⟩) ?_ ?_
         rotate_left
         ·intro w'
          go_simp
          with_reducible rfl
         rotate_left
         ·simp only [Act.put, List.setIfInBounds_toArray, List.set_cons_zero, List.set_cons_succ, i64_w, i32_w]
          rfl
         refine pure_ (i := 1) (N := some 13) (v := ?_) (a' := ?_) #[T,T,F,F,F,F,F,F,F] rfl rfl (any_of HT_.out (z_0)) (fun _ _ _ h => h) (Or.inl ⟨z_30, ?_⟩) ?_ ?_
         rotate_left
         ·intro w'
          go_simp
          with_reducible rfl
         rotate_left
         ·simp only [Act.put, List.setIfInBounds_toArray, List.set_cons_zero, List.set_cons_succ, i64_w, i32_w]
          rfl
         refine pure_ (i := 2) (N := some 14) (v := ?_) (a' := ?_) #[T,T,T,F,F,F,F,F,F] rfl rfl (any_of HT_.out (z_0)) (fun _ _ _ h => h) (Or.inl ⟨z_30, ?_⟩) ?_ ?_
         rotate_left
         ·intro w'
          go_simp
          with_reducible rfl
         rotate_left
         ·simp only [Act.put, List.setIfInBounds_toArray, List.set_cons_zero, List.set_cons_succ, i64_w, i32_w]
          rfl
         refine pure_ (i := 3) (N := some 15) (v := ?_) (a' := ?_) #[T,T,T,T,F,F,F,F,F] rfl rfl (any_of HT_.out (z_0)) (fun _ _ _ h => h) (Or.inl ⟨z_30, ?_⟩) ?_ ?_
         rotate_left
         ·intro w'
          go_simp
          with_reducible rfl
         rotate_left
         ·simp only [Act.put, List.setIfInBounds_toArray, List.set_cons_zero, List.set_cons_succ, i64_w, i32_w]
          rfl
         refine pure_ (i := 4) (N := some 16) (v := ?_) (a' := ?_) #[T,T,T,T,T,F,F,F,F] rfl rfl (any_of HT_.out (z_0)) (fun _ _ _ h => h) (Or.inl ⟨z_30, ?_⟩) ?_ ?_
         rotate_left
         ·intro w'
          go_simp
          with_reducible rfl
         rotate_left
         ·simp only [Act.put, List.setIfInBounds_toArray, List.set_cons_zero, List.set_cons_succ, i64_w, i32_w]
          rfl
         refine pure_ (i := 6) (N := some 18) (v := ?_) (a' := ?_) #[T,T,T,T,T,F,T,F,F] rfl rfl (any_of HT_.out (z_0)) (fun _ _ _ h => h) (Or.inl ⟨z_30, ?_⟩) ?_ ?_
         rotate_left
         ·intro w'
          go_simp
          with_reducible rfl
         rotate_left
         ·simp only [Act.put, List.setIfInBounds_toArray, List.set_cons_zero, List.set_cons_succ, i64_w, i32_w]
          rfl
         refine take_ (i := 5) (N := some 17) (v := ?_) (a' := ?_) #[T,T,T,T,T,T,T,F,F] rfl rfl (take_ofW HT_.out HW_.out (z_0)) (fun _ _ _ h => h) (Or.inl ⟨z_30, ?_⟩) hHeld ?_ ?_
         rotate_left
         ·rintro w' ⟨s0, s1, s2, s3, s4, s5⟩
          go_simp
          with_reducible rfl
         rotate_left
         ·simp only [Act.put, List.setIfInBounds_toArray, List.set_cons_zero, List.set_cons_succ, i64_w, i32_w]
          rfl
         refine one_ (i := 7) (N := some 19) #[T,T,T,T,T,T,T,T,F] rfl rfl (one_of HT_.out (z_0)) (z_19) (fun K hK => ?_)
         refine goes_ Try.func77 (z_0) rfl #[.int .i64 x1_1] (z_30) rfl rfl (z_8) ?_
         with_reducible refine (laws_markText.calls k1 x1_1 t351 _ A5.out).mono ?_
         rintro e w26 ⟨rfl, hb⟩
         refine ⟨_, rfl, ?_⟩
         have n0_ := Aside0.mk (below_step (z_2) hb)
         clear HB
         have HB := n0_
         clear n0_
         (try clear hb)
         (try clear hb2)
         (try clear hk)
         (try clear hi)
         refine hK.out _ _ ⟨(pw_cell_below HB.out hw350_0), (pw_cell_below HB.out hw350_1), (pw_cell_below HB.out hw350_2), (pw_cell_below HB.out hw350_3), (pw_cell_below HB.out hw350_4), (pw_cell_below HB.out hw350_5)⟩ (fun hHeld => ?_)
         clear hK K
         refine norm_ (a' := ?_) ?_ ?_
         rotate_left
         ·show Act.put _ (some 19) _ = _
          simp only [Act.put, List.setIfInBounds_toArray, List.set_cons_zero, List.set_cons_succ, i64_w, i32_w]
          rfl
         refine pure_ (i := 8) (N := some 20) (v := ?_) (a' := ?_) #[T,T,T,T,T,T,T,T,T] rfl rfl (any_of HT_.out (z_0)) (fun _ _ _ h => h) (Or.inl ⟨z_30, ?_⟩) ?_ ?_
         rotate_left
         ·intro w'
          go_simp
          with_reducible rfl
         rotate_left
         ·simp only [Act.put, List.setIfInBounds_toArray, List.set_cons_zero, List.set_cons_succ, i64_w, i32_w]
          rfl
         refine done_ (done_of HT_.out (z_0)) ?_
         have p352 : 0 ≤ (x5_1 : Int) := of_decide_eq_true (z_7)
         have q352 : x5_1 < (l0.length : Int) := of_decide_eq_true (z_7)
         obtain ⟨ad352, e352, hx352_0, hx352_1, hx352_2, hx352_3, hx352_4, hx352_5⟩ := at_T83 HR0.out x5_1 p352 q352
         obtain rfl : ad350 = ad352 := (by injection e352)
         replace hx352_0 := pw_cell_below HB.out hx352_0
         replace hx352_1 := pw_cell_below HB.out hx352_1
         replace hx352_2 := pw_cell_below HB.out hx352_2
         replace hx352_3 := pw_cell_below HB.out hx352_3
         replace hx352_4 := pw_cell_below HB.out hx352_4
         replace hx352_5 := pw_cell_below HB.out hx352_5
         replace p352 := eq_true p352
         replace q352 := eq_true q352
         have p353 : 0 ≤ (x5_1 : Int) := of_decide_eq_true (z_7)
         have q353 : x5_1 < (l0.length : Int) := of_decide_eq_true (z_7)
         obtain ⟨ad353, e353, hx353_0, hx353_1, hx353_2, hx353_3, hx353_4, hx353_5⟩ := at_T83 HR0.out x5_1 p353 q353
         obtain rfl : ad350 = ad353 := (by injection e353)
         replace hx353_0 := pw_cell_below HB.out hx353_0
         replace hx353_1 := pw_cell_below HB.out hx353_1
         replace hx353_2 := pw_cell_below HB.out hx353_2
         replace hx353_3 := pw_cell_below HB.out hx353_3
         replace hx353_4 := pw_cell_below HB.out hx353_4
         replace hx353_5 := pw_cell_below HB.out hx353_5
         replace p353 := eq_true p353
         replace q353 := eq_true q353
         try go_wp2
         have n0_ := Aside0.mk (below_drew1 HB.out)
         clear HB
         have HB := n0_
         clear n0_
         have p354 : 0 ≤ (x5_1 : Int) := of_decide_eq_true (z_7)
         have q354 : x5_1 < (l0.length : Int) := of_decide_eq_true (z_7)
         obtain ⟨ad354, e354, hx354_0, hx354_1, hx354_2, hx354_3, hx354_4, hx354_5⟩ := at_T83 HR0.out x5_1 p354 q354
         have hw354_5 := hx354_5
         have hw354_4 := hx354_4
         have hw354_3 := hx354_3
         have hw354_2 := hx354_2
         have hw354_1 := hx354_1
         have hw354_0 := hx354_0
         obtain rfl : ad350 = ad354 := (by injection e354)
         replace hx354_0 := pw_cell_below HB.out hx354_0
         replace hx354_1 := pw_cell_below HB.out hx354_1
         replace hx354_2 := pw_cell_below HB.out hx354_2
         replace hx354_3 := pw_cell_below HB.out hx354_3
         replace hx354_4 := pw_cell_below HB.out hx354_4
         replace hx354_5 := pw_cell_below HB.out hx354_5
         replace p354 := eq_true p354
         replace q354 := eq_true q354
         refine start_ (n := 9) (S := fun w' => w'.cell? (ad350.add ((x5_1).toNat * 6)) = some (.string ((rd_T83 l0 x5_1).f0.f0)) ∧ w'.cell? ⟨(ad350.add ((x5_1).toNat * 6)).block, (ad350.add ((x5_1).toNat * 6)).off + 1, none⟩ = some (.int .i64 ((rd_T83 l0 x5_1).f0.f1)) ∧ w'.cell? ⟨(ad350.add ((x5_1).toNat * 6)).block, (ad350.add ((x5_1).toNat * 6)).off + 2, none⟩ = some (.int .i64 ((rd_T83 l0 x5_1).f0.f2)) ∧ w'.cell? ⟨(ad350.add ((x5_1).toNat * 6)).block, (ad350.add ((x5_1).toNat * 6)).off + 3, none⟩ = some (.string ((rd_T83 l0 x5_1).f0.f3)) ∧ w'.cell? ⟨(ad350.add ((x5_1).toNat * 6)).block, (ad350.add ((x5_1).toNat * 6)).off + 4, none⟩ = some (.int .i64 ((rd_T83 l0 x5_1).f0.f4)) ∧ w'.cell? ⟨(ad350.add ((x5_1).toNat * 6)).block, (ad350.add ((x5_1).toNat * 6)).off + 5, none⟩ = some (.int .i64 ((rd_T83 l0 x5_1).f1))) (ds := []) #[F,F,F,F,F,F,F,F,F] (z_0) rfl rfl ⟨(pw_cell_below HB.out hw354_0), (pw_cell_below HB.out hw354_1), (pw_cell_below HB.out hw354_2), (pw_cell_below HB.out hw354_3), (pw_cell_below HB.out hw354_4), (pw_cell_below HB.out hw354_5)⟩ (fun hHeld => ?_); refine with_tabW laws_heldKeptS.tab13 laws_heldKeptS.bits13 (fun HT_ HW_ => ?_)
         generalize w26.drew = w27 at HB hx354_0 hx354_1 hx354_2 hx354_3 hx354_4 hx354_5 hHeld ⊢
         refine pure_ (i := 0) (N := some 43) (v := ?_) (a' := ?_) #[T,F,F,F,F,F,F,F,F] rfl rfl (any_of HT_.out (z_0)) (fun _ _ _ h => h) (Or.inl ⟨z_30, ?_⟩) ?_ ?_
         rotate_left
         ·intro w'
          go_simp
          with_reducible rfl
         rotate_left
         ·simp only [Act.put, List.setIfInBounds_toArray, List.set_cons_zero, List.set_cons_succ, i64_w, i32_w]
          rfl
         refine pure_ (i := 1) (N := some 44) (v := ?_) (a' := ?_) #[T,T,F,F,F,F,F,F,F] rfl rfl (any_of HT_.out (z_0)) (fun _ _ _ h => h) (Or.inl ⟨z_30, ?_⟩) ?_ ?_
         rotate_left
         ·intro w'
          go_simp
          with_reducible rfl
         rotate_left
         ·simp only [Act.put, List.setIfInBounds_toArray, List.set_cons_zero, List.set_cons_succ, i64_w, i32_w]
          rfl
         refine pure_ (i := 2) (N := some 45) (v := ?_) (a' := ?_) #[T,T,T,F,F,F,F,F,F] rfl rfl (any_of HT_.out (z_0)) (fun _ _ _ h => h) (Or.inl ⟨z_30, ?_⟩) ?_ ?_
         rotate_left
         ·intro w'
          go_simp
          with_reducible rfl
         rotate_left
         ·simp only [Act.put, List.setIfInBounds_toArray, List.set_cons_zero, List.set_cons_succ, i64_w, i32_w]
          rfl
         refine pure_ (i := 3) (N := some 46) (v := ?_) (a' := ?_) #[T,T,T,T,F,F,F,F,F] rfl rfl (any_of HT_.out (z_0)) (fun _ _ _ h => h) (Or.inl ⟨z_30, ?_⟩) ?_ ?_
         rotate_left
         ·intro w'
          go_simp
          with_reducible rfl
         rotate_left
         ·simp only [Act.put, List.setIfInBounds_toArray, List.set_cons_zero, List.set_cons_succ, i64_w, i32_w]
          rfl
         refine pure_ (i := 4) (N := some 47) (v := ?_) (a' := ?_) #[T,T,T,T,T,F,F,F,F] rfl rfl (any_of HT_.out (z_0)) (fun _ _ _ h => h) (Or.inl ⟨z_30, ?_⟩) ?_ ?_
         rotate_left
         ·intro w'
          go_simp
          with_reducible rfl
         rotate_left
         ·simp only [Act.put, List.setIfInBounds_toArray, List.set_cons_zero, List.set_cons_succ, i64_w, i32_w]
          rfl
         refine pure_ (i := 6) (N := some 49) (v := ?_) (a' := ?_) #[T,T,T,T,T,F,T,F,F] rfl rfl (any_of HT_.out (z_0)) (fun _ _ _ h => h) (Or.inl ⟨z_30, ?_⟩) ?_ ?_
         rotate_left
         ·intro w'
          go_simp
          with_reducible rfl
         rotate_left
         ·simp only [Act.put, List.setIfInBounds_toArray, List.set_cons_zero, List.set_cons_succ, i64_w, i32_w]
          rfl
         refine take_ (i := 5) (N := some 48) (v := ?_) (a' := ?_) #[T,T,T,T,T,T,T,F,F] rfl rfl (take_ofW HT_.out HW_.out (z_0)) (fun _ _ _ h => h) (Or.inl ⟨z_30, ?_⟩) hHeld ?_ ?_
         rotate_left
         ·rintro w' ⟨s0, s1, s2, s3, s4, s5⟩
          go_simp
          with_reducible rfl
         rotate_left
         ·simp only [Act.put, List.setIfInBounds_toArray, List.set_cons_zero, List.set_cons_succ, i64_w, i32_w]
          rfl
         refine one_ (i := 7) (N := some 50) #[T,T,T,T,T,T,T,T,F] rfl rfl (one_of HT_.out (z_0)) (z_19) (fun K hK => ?_)
         refine goes_ Try.func77 (z_0) rfl #[.int .i64 (wrap64 ((wrap64 ((wrap64 (x1_1 + 1)) + 1)) + 1))] (z_30) rfl rfl (z_8) ?_
         with_reducible refine (laws_markText.calls k1 (wrap64 ((wrap64 ((wrap64 (x1_1 + 1)) + 1)) + 1)) t355 _ A9.out).mono ?_
         rintro e w28 ⟨rfl, hb⟩
         refine ⟨_, rfl, ?_⟩
         have n0_ := Aside0.mk (below_step (z_2) hb)
         clear HB
         have HB := n0_
         clear n0_
         (try clear hb)
         (try clear hb2)
         (try clear hk)
         (try clear hi)
         refine hK.out _ _ ⟨(pw_cell_below HB.out hw354_0), (pw_cell_below HB.out hw354_1), (pw_cell_below HB.out hw354_2), (pw_cell_below HB.out hw354_3), (pw_cell_below HB.out hw354_4), (pw_cell_below HB.out hw354_5)⟩ (fun hHeld => ?_)
         clear hK K
         refine norm_ (a' := ?_) ?_ ?_
         rotate_left
         ·show Act.put _ (some 50) _ = _
          simp only [Act.put, List.setIfInBounds_toArray, List.set_cons_zero, List.set_cons_succ, i64_w, i32_w]
          rfl
         refine pure_ (i := 8) (N := some 51) (v := ?_) (a' := ?_) #[T,T,T,T,T,T,T,T,T] rfl rfl (any_of HT_.out (z_0)) (fun _ _ _ h => h) (Or.inl ⟨z_30, ?_⟩) ?_ ?_
         rotate_left
         ·intro w'
          go_simp
          with_reducible rfl
         rotate_left
         ·simp only [Act.put, List.setIfInBounds_toArray, List.set_cons_zero, List.set_cons_succ, i64_w, i32_w]
          rfl
         refine done_ (done_of HT_.out (z_0)) ?_
         try go_wp2
         go_ret
         exact ⟨z_4, z_2⟩
       ·rw [if_neg c8] at H
        have c8b0 : (((rd_T83 l0 x5_1).f0.f2) == (wrap64 ((wrap64 (x1_1 + 1)) + 1))) = false := beq_eq_false_iff_ne.mpr c8
        have c8b1 : (((rd_T83 l0 x5_1).f0.f2) != (wrap64 ((wrap64 (x1_1 + 1)) + 1))) = true := bne_iff_ne.mpr c8
        obtain rfl := Option.some.inj H
        try go_wp2
        have n0_ := Aside0.mk (below_drew1 HB.out)
        clear HB
        have HB := n0_
        clear n0_
        have p350 : 0 ≤ (x5_1 : Int) := of_decide_eq_true (z_7)
        have q350 : x5_1 < (l0.length : Int) := of_decide_eq_true (z_7)
        obtain ⟨ad350, e350, hx350_0, hx350_1, hx350_2, hx350_3, hx350_4, hx350_5⟩ := at_T83 HR0.out x5_1 p350 q350
        have hw350_5 := hx350_5
        have hw350_4 := hx350_4
        have hw350_3 := hx350_3
        have hw350_2 := hx350_2
        have hw350_1 := hx350_1
        have hw350_0 := hx350_0
        cases e350
        replace hx350_0 := pw_cell_below HB.out hx350_0
        replace hx350_1 := pw_cell_below HB.out hx350_1
        replace hx350_2 := pw_cell_below HB.out hx350_2
        replace hx350_3 := pw_cell_below HB.out hx350_3
        replace hx350_4 := pw_cell_below HB.out hx350_4
        replace hx350_5 := pw_cell_below HB.out hx350_5
        replace p350 := eq_true p350
        replace q350 := eq_true q350
        refine start_ (n := 9) (S := fun w' => w'.cell? (ad350.add ((x5_1).toNat * 6)) = some (.string ((rd_T83 l0 x5_1).f0.f0)) ∧ w'.cell? ⟨(ad350.add ((x5_1).toNat * 6)).block, (ad350.add ((x5_1).toNat * 6)).off + 1, none⟩ = some (.int .i64 ((rd_T83 l0 x5_1).f0.f1)) ∧ w'.cell? ⟨(ad350.add ((x5_1).toNat * 6)).block, (ad350.add ((x5_1).toNat * 6)).off + 2, none⟩ = some (.int .i64 ((rd_T83 l0 x5_1).f0.f2)) ∧ w'.cell? ⟨(ad350.add ((x5_1).toNat * 6)).block, (ad350.add ((x5_1).toNat * 6)).off + 3, none⟩ = some (.string ((rd_T83 l0 x5_1).f0.f3)) ∧ w'.cell? ⟨(ad350.add ((x5_1).toNat * 6)).block, (ad350.add ((x5_1).toNat * 6)).off + 4, none⟩ = some (.int .i64 ((rd_T83 l0 x5_1).f0.f4)) ∧ w'.cell? ⟨(ad350.add ((x5_1).toNat * 6)).block, (ad350.add ((x5_1).toNat * 6)).off + 5, none⟩ = some (.int .i64 ((rd_T83 l0 x5_1).f1))) (ds := []) #[F,F,F,F,F,F,F,F,F] (z_0) rfl rfl ⟨(pw_cell_below HB.out hw350_0), (pw_cell_below HB.out hw350_1), (pw_cell_below HB.out hw350_2), (pw_cell_below HB.out hw350_3), (pw_cell_below HB.out hw350_4), (pw_cell_below HB.out hw350_5)⟩ (fun hHeld => ?_); refine with_tabW laws_heldKeptS.tab4 laws_heldKeptS.bits4 (fun HT_ HW_ => ?_)
        generalize wr.drew = w29 at HB hx350_0 hx350_1 hx350_2 hx350_3 hx350_4 hx350_5 hHeld ⊢
        refine pure_ (i := 0) (N := some 12) (v := ?_) (a' := ?_) #[T,F,F,F,F,F,F,F,F] rfl rfl (any_of HT_.out (z_0)) (fun _ _ _ h => h) (Or.inl ⟨z_30, ?_⟩) ?_ ?_
        rotate_left
        ·intro w'
         go_simp
         with_reducible rfl
        rotate_left
        ·simp only [Act.put, List.setIfInBounds_toArray, List.set_cons_zero, List.set_cons_succ, i64_w, i32_w]
         rfl
        refine pure_ (i := 1) (N := some 13) (v := ?_) (a' := ?_) #[T,T,F,F,F,F,F,F,F] rfl rfl (any_of HT_.out (z_0)) (fun _ _ _ h => h) (Or.inl ⟨z_30, ?_⟩) ?_ ?_
        rotate_left
        ·intro w'
         go_simp
         with_reducible rfl
        rotate_left
        ·simp only [Act.put, List.setIfInBounds_toArray, List.set_cons_zero, List.set_cons_succ, i64_w, i32_w]
         rfl
        refine pure_ (i := 2) (N := some 14) (v := ?_) (a' := ?_) #[T,T,T,F,F,F,F,F,F] rfl rfl (any_of HT_.out (z_0)) (fun _ _ _ h => h) (Or.inl ⟨z_30, ?_⟩) ?_ ?_
        rotate_left
        ·intro w'
         go_simp
         with_reducible rfl
        rotate_left
        ·simp only [Act.put, List.setIfInBounds_toArray, List.set_cons_zero, List.set_cons_succ, i64_w, i32_w]
         rfl
        refine pure_ (i := 3) (N := some 15) (v := ?_) (a' := ?_) #[T,T,T,T,F,F,F,F,F] rfl rfl (any_of HT_.out (z_0)) (fun _ _ _ h => h) (Or.inl ⟨z_30, ?_⟩) ?_ ?_
        rotate_left
        ·intro w'
         go_simp
         with_reducible rfl
        rotate_left
        ·simp only [Act.put, List.setIfInBounds_toArray, List.set_cons_zero, List.set_cons_succ, i64_w, i32_w]
         rfl
        refine pure_ (i := 4) (N := some 16) (v := ?_) (a' := ?_) #[T,T,T,T,T,F,F,F,F] rfl rfl (any_of HT_.out (z_0)) (fun _ _ _ h => h) (Or.inl ⟨z_30, ?_⟩) ?_ ?_
        rotate_left
        ·intro w'
         go_simp
         with_reducible rfl
        rotate_left
        ·simp only [Act.put, List.setIfInBounds_toArray, List.set_cons_zero, List.set_cons_succ, i64_w, i32_w]
         rfl
        refine pure_ (i := 6) (N := some 18) (v := ?_) (a' := ?_) #[T,T,T,T,T,F,T,F,F] rfl rfl (any_of HT_.out (z_0)) (fun _ _ _ h => h) (Or.inl ⟨z_30, ?_⟩) ?_ ?_
        rotate_left
        ·intro w'
         go_simp
         with_reducible rfl
        rotate_left
        ·simp only [Act.put, List.setIfInBounds_toArray, List.set_cons_zero, List.set_cons_succ, i64_w, i32_w]
         rfl
        refine take_ (i := 5) (N := some 17) (v := ?_) (a' := ?_) #[T,T,T,T,T,T,T,F,F] rfl rfl (take_ofW HT_.out HW_.out (z_0)) (fun _ _ _ h => h) (Or.inl ⟨z_30, ?_⟩) hHeld ?_ ?_
        rotate_left
        ·rintro w' ⟨s0, s1, s2, s3, s4, s5⟩
         go_simp
         with_reducible rfl
        rotate_left
        ·simp only [Act.put, List.setIfInBounds_toArray, List.set_cons_zero, List.set_cons_succ, i64_w, i32_w]
         rfl
        refine one_ (i := 7) (N := some 19) #[T,T,T,T,T,T,T,T,F] rfl rfl (one_of HT_.out (z_0)) (z_19) (fun K hK => ?_)
        refine goes_ Try.func77 (z_0) rfl #[.int .i64 x1_1] (z_30) rfl rfl (z_8) ?_
        with_reducible refine (laws_markText.calls k1 x1_1 t351 _ A5.out).mono ?_
        rintro e w30 ⟨rfl, hb⟩
        refine ⟨_, rfl, ?_⟩
        have n0_ := Aside0.mk (below_step (z_2) hb)
        clear HB
        have HB := n0_
        clear n0_
        (try clear hb)
        (try clear hb2)
        (try clear hk)
        (try clear hi)
        refine hK.out _ _ ⟨(pw_cell_below HB.out hw350_0), (pw_cell_below HB.out hw350_1), (pw_cell_below HB.out hw350_2), (pw_cell_below HB.out hw350_3), (pw_cell_below HB.out hw350_4), (pw_cell_below HB.out hw350_5)⟩ (fun hHeld => ?_)
        clear hK K
        refine norm_ (a' := ?_) ?_ ?_
        rotate_left
        ·show Act.put _ (some 19) _ = _
         simp only [Act.put, List.setIfInBounds_toArray, List.set_cons_zero, List.set_cons_succ, i64_w, i32_w]
         rfl
        refine pure_ (i := 8) (N := some 20) (v := ?_) (a' := ?_) #[T,T,T,T,T,T,T,T,T] rfl rfl (any_of HT_.out (z_0)) (fun _ _ _ h => h) (Or.inl ⟨z_30, ?_⟩) ?_ ?_
        rotate_left
        ·intro w'
         go_simp
         with_reducible rfl
        rotate_left
        ·simp only [Act.put, List.setIfInBounds_toArray, List.set_cons_zero, List.set_cons_succ, i64_w, i32_w]
         rfl
        refine done_ (done_of HT_.out (z_0)) ?_
        have p352 : 0 ≤ (x5_1 : Int) := of_decide_eq_true (z_7)
        have q352 : x5_1 < (l0.length : Int) := of_decide_eq_true (z_7)
        obtain ⟨ad352, e352, hx352_0, hx352_1, hx352_2, hx352_3, hx352_4, hx352_5⟩ := at_T83 HR0.out x5_1 p352 q352
        obtain rfl : ad350 = ad352 := (by injection e352)
        replace hx352_0 := pw_cell_below HB.out hx352_0
        replace hx352_1 := pw_cell_below HB.out hx352_1
        replace hx352_2 := pw_cell_below HB.out hx352_2
        replace hx352_3 := pw_cell_below HB.out hx352_3
        replace hx352_4 := pw_cell_below HB.out hx352_4
        replace hx352_5 := pw_cell_below HB.out hx352_5
        replace p352 := eq_true p352
        replace q352 := eq_true q352
        have p353 : 0 ≤ (x5_1 : Int) := of_decide_eq_true (z_7)
        have q353 : x5_1 < (l0.length : Int) := of_decide_eq_true (z_7)
        obtain ⟨ad353, e353, hx353_0, hx353_1, hx353_2, hx353_3, hx353_4, hx353_5⟩ := at_T83 HR0.out x5_1 p353 q353
        obtain rfl : ad350 = ad353 := (by injection e353)
        replace hx353_0 := pw_cell_below HB.out hx353_0
        replace hx353_1 := pw_cell_below HB.out hx353_1
        replace hx353_2 := pw_cell_below HB.out hx353_2
        replace hx353_3 := pw_cell_below HB.out hx353_3
        replace hx353_4 := pw_cell_below HB.out hx353_4
        replace hx353_5 := pw_cell_below HB.out hx353_5
        replace p353 := eq_true p353
        replace q353 := eq_true q353
        try go_wp2
        go_ret
        exact ⟨z_4, z_2⟩
      ·rw [if_neg c7] at H
       have c7b0 : (((rd_T83 l0 x5_1).f0.f1) == (wrap64 (x1_1 + 1))) = false := beq_eq_false_iff_ne.mpr c7
       have c7b1 : (((rd_T83 l0 x5_1).f0.f1) != (wrap64 (x1_1 + 1))) = true := bne_iff_ne.mpr c7
       obtain rfl := Option.some.inj H
       try go_wp2
       have n0_ := Aside0.mk (below_drew1 HB.out)
       clear HB
       have HB := n0_
       clear n0_
       have p350 : 0 ≤ (x5_1 : Int) := of_decide_eq_true (z_7)
       have q350 : x5_1 < (l0.length : Int) := of_decide_eq_true (z_7)
       obtain ⟨ad350, e350, hx350_0, hx350_1, hx350_2, hx350_3, hx350_4, hx350_5⟩ := at_T83 HR0.out x5_1 p350 q350
       have hw350_5 := hx350_5
       have hw350_4 := hx350_4
       have hw350_3 := hx350_3
       have hw350_2 := hx350_2
       have hw350_1 := hx350_1
       have hw350_0 := hx350_0
       cases e350
       replace hx350_0 := pw_cell_below HB.out hx350_0
       replace hx350_1 := pw_cell_below HB.out hx350_1
       replace hx350_2 := pw_cell_below HB.out hx350_2
       replace hx350_3 := pw_cell_below HB.out hx350_3
       replace hx350_4 := pw_cell_below HB.out hx350_4
       replace hx350_5 := pw_cell_below HB.out hx350_5
       replace p350 := eq_true p350
       replace q350 := eq_true q350
       refine start_ (n := 9) (S := fun w' => w'.cell? (ad350.add ((x5_1).toNat * 6)) = some (.string ((rd_T83 l0 x5_1).f0.f0)) ∧ w'.cell? ⟨(ad350.add ((x5_1).toNat * 6)).block, (ad350.add ((x5_1).toNat * 6)).off + 1, none⟩ = some (.int .i64 ((rd_T83 l0 x5_1).f0.f1)) ∧ w'.cell? ⟨(ad350.add ((x5_1).toNat * 6)).block, (ad350.add ((x5_1).toNat * 6)).off + 2, none⟩ = some (.int .i64 ((rd_T83 l0 x5_1).f0.f2)) ∧ w'.cell? ⟨(ad350.add ((x5_1).toNat * 6)).block, (ad350.add ((x5_1).toNat * 6)).off + 3, none⟩ = some (.string ((rd_T83 l0 x5_1).f0.f3)) ∧ w'.cell? ⟨(ad350.add ((x5_1).toNat * 6)).block, (ad350.add ((x5_1).toNat * 6)).off + 4, none⟩ = some (.int .i64 ((rd_T83 l0 x5_1).f0.f4)) ∧ w'.cell? ⟨(ad350.add ((x5_1).toNat * 6)).block, (ad350.add ((x5_1).toNat * 6)).off + 5, none⟩ = some (.int .i64 ((rd_T83 l0 x5_1).f1))) (ds := []) #[F,F,F,F,F,F,F,F,F] (z_0) rfl rfl ⟨(pw_cell_below HB.out hw350_0), (pw_cell_below HB.out hw350_1), (pw_cell_below HB.out hw350_2), (pw_cell_below HB.out hw350_3), (pw_cell_below HB.out hw350_4), (pw_cell_below HB.out hw350_5)⟩ (fun hHeld => ?_); refine with_tabW laws_heldKeptS.tab4 laws_heldKeptS.bits4 (fun HT_ HW_ => ?_)
       generalize wr.drew = w31 at HB hx350_0 hx350_1 hx350_2 hx350_3 hx350_4 hx350_5 hHeld ⊢
       refine pure_ (i := 0) (N := some 12) (v := ?_) (a' := ?_) #[T,F,F,F,F,F,F,F,F] rfl rfl (any_of HT_.out (z_0)) (fun _ _ _ h => h) (Or.inl ⟨z_30, ?_⟩) ?_ ?_
       rotate_left
       ·intro w'
        go_simp
        with_reducible rfl
       rotate_left
       ·simp only [Act.put, List.setIfInBounds_toArray, List.set_cons_zero, List.set_cons_succ, i64_w, i32_w]
        rfl
       refine pure_ (i := 1) (N := some 13) (v := ?_) (a' := ?_) #[T,T,F,F,F,F,F,F,F] rfl rfl (any_of HT_.out (z_0)) (fun _ _ _ h => h) (Or.inl ⟨z_30, ?_⟩) ?_ ?_
       rotate_left
       ·intro w'
        go_simp
        with_reducible rfl
       rotate_left
       ·simp only [Act.put, List.setIfInBounds_toArray, List.set_cons_zero, List.set_cons_succ, i64_w, i32_w]
        rfl
       refine pure_ (i := 2) (N := some 14) (v := ?_) (a' := ?_) #[T,T,T,F,F,F,F,F,F] rfl rfl (any_of HT_.out (z_0)) (fun _ _ _ h => h) (Or.inl ⟨z_30, ?_⟩) ?_ ?_
       rotate_left
       ·intro w'
        go_simp
        with_reducible rfl
       rotate_left
       ·simp only [Act.put, List.setIfInBounds_toArray, List.set_cons_zero, List.set_cons_succ, i64_w, i32_w]
        rfl
       refine pure_ (i := 3) (N := some 15) (v := ?_) (a' := ?_) #[T,T,T,T,F,F,F,F,F] rfl rfl (any_of HT_.out (z_0)) (fun _ _ _ h => h) (Or.inl ⟨z_30, ?_⟩) ?_ ?_
       rotate_left
       ·intro w'
        go_simp
        with_reducible rfl
       rotate_left
       ·simp only [Act.put, List.setIfInBounds_toArray, List.set_cons_zero, List.set_cons_succ, i64_w, i32_w]
        rfl
       refine pure_ (i := 4) (N := some 16) (v := ?_) (a' := ?_) #[T,T,T,T,T,F,F,F,F] rfl rfl (any_of HT_.out (z_0)) (fun _ _ _ h => h) (Or.inl ⟨z_30, ?_⟩) ?_ ?_
       rotate_left
       ·intro w'
        go_simp
        with_reducible rfl
       rotate_left
       ·simp only [Act.put, List.setIfInBounds_toArray, List.set_cons_zero, List.set_cons_succ, i64_w, i32_w]
        rfl
       refine pure_ (i := 6) (N := some 18) (v := ?_) (a' := ?_) #[T,T,T,T,T,F,T,F,F] rfl rfl (any_of HT_.out (z_0)) (fun _ _ _ h => h) (Or.inl ⟨z_30, ?_⟩) ?_ ?_
       rotate_left
       ·intro w'
        go_simp
        with_reducible rfl
       rotate_left
       ·simp only [Act.put, List.setIfInBounds_toArray, List.set_cons_zero, List.set_cons_succ, i64_w, i32_w]
        rfl
       refine take_ (i := 5) (N := some 17) (v := ?_) (a' := ?_) #[T,T,T,T,T,T,T,F,F] rfl rfl (take_ofW HT_.out HW_.out (z_0)) (fun _ _ _ h => h) (Or.inl ⟨z_30, ?_⟩) hHeld ?_ ?_
       rotate_left
       ·rintro w' ⟨s0, s1, s2, s3, s4, s5⟩
        go_simp
        with_reducible rfl
       rotate_left
       ·simp only [Act.put, List.setIfInBounds_toArray, List.set_cons_zero, List.set_cons_succ, i64_w, i32_w]
        rfl
       refine one_ (i := 7) (N := some 19) #[T,T,T,T,T,T,T,T,F] rfl rfl (one_of HT_.out (z_0)) (z_19) (fun K hK => ?_)
       refine goes_ Try.func77 (z_0) rfl #[.int .i64 x1_1] (z_30) rfl rfl (z_8) ?_
       with_reducible refine (laws_markText.calls k1 x1_1 t351 _ A5.out).mono ?_
       rintro e w32 ⟨rfl, hb⟩
       refine ⟨_, rfl, ?_⟩
       have n0_ := Aside0.mk (below_step (z_2) hb)
       clear HB
       have HB := n0_
       clear n0_
       (try clear hb)
       (try clear hb2)
       (try clear hk)
       (try clear hi)
       refine hK.out _ _ ⟨(pw_cell_below HB.out hw350_0), (pw_cell_below HB.out hw350_1), (pw_cell_below HB.out hw350_2), (pw_cell_below HB.out hw350_3), (pw_cell_below HB.out hw350_4), (pw_cell_below HB.out hw350_5)⟩ (fun hHeld => ?_)
       clear hK K
       refine norm_ (a' := ?_) ?_ ?_
       rotate_left
       ·show Act.put _ (some 19) _ = _
        simp only [Act.put, List.setIfInBounds_toArray, List.set_cons_zero, List.set_cons_succ, i64_w, i32_w]
        rfl
       refine pure_ (i := 8) (N := some 20) (v := ?_) (a' := ?_) #[T,T,T,T,T,T,T,T,T] rfl rfl (any_of HT_.out (z_0)) (fun _ _ _ h => h) (Or.inl ⟨z_30, ?_⟩) ?_ ?_
       rotate_left
       ·intro w'
        go_simp
        with_reducible rfl
       rotate_left
       ·simp only [Act.put, List.setIfInBounds_toArray, List.set_cons_zero, List.set_cons_succ, i64_w, i32_w]
        rfl
       refine done_ (done_of HT_.out (z_0)) ?_
       have p352 : 0 ≤ (x5_1 : Int) := of_decide_eq_true (z_7)
       have q352 : x5_1 < (l0.length : Int) := of_decide_eq_true (z_7)
       obtain ⟨ad352, e352, hx352_0, hx352_1, hx352_2, hx352_3, hx352_4, hx352_5⟩ := at_T83 HR0.out x5_1 p352 q352
       obtain rfl : ad350 = ad352 := (by injection e352)
       replace hx352_0 := pw_cell_below HB.out hx352_0
       replace hx352_1 := pw_cell_below HB.out hx352_1
       replace hx352_2 := pw_cell_below HB.out hx352_2
       replace hx352_3 := pw_cell_below HB.out hx352_3
       replace hx352_4 := pw_cell_below HB.out hx352_4
       replace hx352_5 := pw_cell_below HB.out hx352_5
       replace p352 := eq_true p352
       replace q352 := eq_true q352
       try go_wp2
       go_ret
       exact ⟨z_4, z_2⟩
     ·rw [if_neg c6] at H
      have c6b0 : (((rd_T83 l0 x5_1).f0.f0).toList == t351.toList) = false := beq_eq_false_iff_ne.mpr c6
      have c6b1 : (((rd_T83 l0 x5_1).f0.f0).toList != t351.toList) = true := bne_iff_ne.mpr c6
      obtain rfl := Option.some.inj H
      try go_wp2
      have n0_ := Aside0.mk (below_drew1 HB.out)
      clear HB
      have HB := n0_
      clear n0_
      have p350 : 0 ≤ (x5_1 : Int) := of_decide_eq_true (z_7)
      have q350 : x5_1 < (l0.length : Int) := of_decide_eq_true (z_7)
      obtain ⟨ad350, e350, hx350_0, hx350_1, hx350_2, hx350_3, hx350_4, hx350_5⟩ := at_T83 HR0.out x5_1 p350 q350
      have hw350_5 := hx350_5
      have hw350_4 := hx350_4
      have hw350_3 := hx350_3
      have hw350_2 := hx350_2
      have hw350_1 := hx350_1
      have hw350_0 := hx350_0
      cases e350
      replace hx350_0 := pw_cell_below HB.out hx350_0
      replace hx350_1 := pw_cell_below HB.out hx350_1
      replace hx350_2 := pw_cell_below HB.out hx350_2
      replace hx350_3 := pw_cell_below HB.out hx350_3
      replace hx350_4 := pw_cell_below HB.out hx350_4
      replace hx350_5 := pw_cell_below HB.out hx350_5
      replace p350 := eq_true p350
      replace q350 := eq_true q350
      refine start_ (n := 9) (S := fun w' => w'.cell? (ad350.add ((x5_1).toNat * 6)) = some (.string ((rd_T83 l0 x5_1).f0.f0)) ∧ w'.cell? ⟨(ad350.add ((x5_1).toNat * 6)).block, (ad350.add ((x5_1).toNat * 6)).off + 1, none⟩ = some (.int .i64 ((rd_T83 l0 x5_1).f0.f1)) ∧ w'.cell? ⟨(ad350.add ((x5_1).toNat * 6)).block, (ad350.add ((x5_1).toNat * 6)).off + 2, none⟩ = some (.int .i64 ((rd_T83 l0 x5_1).f0.f2)) ∧ w'.cell? ⟨(ad350.add ((x5_1).toNat * 6)).block, (ad350.add ((x5_1).toNat * 6)).off + 3, none⟩ = some (.string ((rd_T83 l0 x5_1).f0.f3)) ∧ w'.cell? ⟨(ad350.add ((x5_1).toNat * 6)).block, (ad350.add ((x5_1).toNat * 6)).off + 4, none⟩ = some (.int .i64 ((rd_T83 l0 x5_1).f0.f4)) ∧ w'.cell? ⟨(ad350.add ((x5_1).toNat * 6)).block, (ad350.add ((x5_1).toNat * 6)).off + 5, none⟩ = some (.int .i64 ((rd_T83 l0 x5_1).f1))) (ds := []) #[F,F,F,F,F,F,F,F,F] (z_0) rfl rfl ⟨(pw_cell_below HB.out hw350_0), (pw_cell_below HB.out hw350_1), (pw_cell_below HB.out hw350_2), (pw_cell_below HB.out hw350_3), (pw_cell_below HB.out hw350_4), (pw_cell_below HB.out hw350_5)⟩ (fun hHeld => ?_); refine with_tabW laws_heldKeptS.tab4 laws_heldKeptS.bits4 (fun HT_ HW_ => ?_)
      generalize wr.drew = w33 at HB hx350_0 hx350_1 hx350_2 hx350_3 hx350_4 hx350_5 hHeld ⊢
      refine pure_ (i := 0) (N := some 12) (v := ?_) (a' := ?_) #[T,F,F,F,F,F,F,F,F] rfl rfl (any_of HT_.out (z_0)) (fun _ _ _ h => h) (Or.inl ⟨z_30, ?_⟩) ?_ ?_
      rotate_left
      ·intro w'
       go_simp
       with_reducible rfl
      rotate_left
      ·simp only [Act.put, List.setIfInBounds_toArray, List.set_cons_zero, List.set_cons_succ, i64_w, i32_w]
       rfl
      refine pure_ (i := 1) (N := some 13) (v := ?_) (a' := ?_) #[T,T,F,F,F,F,F,F,F] rfl rfl (any_of HT_.out (z_0)) (fun _ _ _ h => h) (Or.inl ⟨z_30, ?_⟩) ?_ ?_
      rotate_left
      ·intro w'
       go_simp
       with_reducible rfl
      rotate_left
      ·simp only [Act.put, List.setIfInBounds_toArray, List.set_cons_zero, List.set_cons_succ, i64_w, i32_w]
       rfl
      refine pure_ (i := 2) (N := some 14) (v := ?_) (a' := ?_) #[T,T,T,F,F,F,F,F,F] rfl rfl (any_of HT_.out (z_0)) (fun _ _ _ h => h) (Or.inl ⟨z_30, ?_⟩) ?_ ?_
      rotate_left
      ·intro w'
       go_simp
       with_reducible rfl
      rotate_left
      ·simp only [Act.put, List.setIfInBounds_toArray, List.set_cons_zero, List.set_cons_succ, i64_w, i32_w]
       rfl
      refine pure_ (i := 3) (N := some 15) (v := ?_) (a' := ?_) #[T,T,T,T,F,F,F,F,F] rfl rfl (any_of HT_.out (z_0)) (fun _ _ _ h => h) (Or.inl ⟨z_30, ?_⟩) ?_ ?_
      rotate_left
      ·intro w'
       go_simp
       with_reducible rfl
      rotate_left
      ·simp only [Act.put, List.setIfInBounds_toArray, List.set_cons_zero, List.set_cons_succ, i64_w, i32_w]
       rfl
      refine pure_ (i := 4) (N := some 16) (v := ?_) (a' := ?_) #[T,T,T,T,T,F,F,F,F] rfl rfl (any_of HT_.out (z_0)) (fun _ _ _ h => h) (Or.inl ⟨z_30, ?_⟩) ?_ ?_
      rotate_left
      ·intro w'
       go_simp
       with_reducible rfl
      rotate_left
      ·simp only [Act.put, List.setIfInBounds_toArray, List.set_cons_zero, List.set_cons_succ, i64_w, i32_w]
       rfl
      refine pure_ (i := 6) (N := some 18) (v := ?_) (a' := ?_) #[T,T,T,T,T,F,T,F,F] rfl rfl (any_of HT_.out (z_0)) (fun _ _ _ h => h) (Or.inl ⟨z_30, ?_⟩) ?_ ?_
      rotate_left
      ·intro w'
       go_simp
       with_reducible rfl
      rotate_left
      ·simp only [Act.put, List.setIfInBounds_toArray, List.set_cons_zero, List.set_cons_succ, i64_w, i32_w]
       rfl
      refine take_ (i := 5) (N := some 17) (v := ?_) (a' := ?_) #[T,T,T,T,T,T,T,F,F] rfl rfl (take_ofW HT_.out HW_.out (z_0)) (fun _ _ _ h => h) (Or.inl ⟨z_30, ?_⟩) hHeld ?_ ?_
      rotate_left
      ·rintro w' ⟨s0, s1, s2, s3, s4, s5⟩
       go_simp
       with_reducible rfl
      rotate_left
      ·simp only [Act.put, List.setIfInBounds_toArray, List.set_cons_zero, List.set_cons_succ, i64_w, i32_w]
       rfl
      refine one_ (i := 7) (N := some 19) #[T,T,T,T,T,T,T,T,F] rfl rfl (one_of HT_.out (z_0)) (z_19) (fun K hK => ?_)
      refine goes_ Try.func77 (z_0) rfl #[.int .i64 x1_1] (z_30) rfl rfl (z_8) ?_
      with_reducible refine (laws_markText.calls k1 x1_1 t351 _ A5.out).mono ?_
      rintro e w34 ⟨rfl, hb⟩
      refine ⟨_, rfl, ?_⟩
      have n0_ := Aside0.mk (below_step (z_2) hb)
      clear HB
      have HB := n0_
      clear n0_
      (try clear hb)
      (try clear hb2)
      (try clear hk)
      (try clear hi)
      refine hK.out _ _ ⟨(pw_cell_below HB.out hw350_0), (pw_cell_below HB.out hw350_1), (pw_cell_below HB.out hw350_2), (pw_cell_below HB.out hw350_3), (pw_cell_below HB.out hw350_4), (pw_cell_below HB.out hw350_5)⟩ (fun hHeld => ?_)
      clear hK K
      refine norm_ (a' := ?_) ?_ ?_
      rotate_left
      ·show Act.put _ (some 19) _ = _
       simp only [Act.put, List.setIfInBounds_toArray, List.set_cons_zero, List.set_cons_succ, i64_w, i32_w]
       rfl
      refine pure_ (i := 8) (N := some 20) (v := ?_) (a' := ?_) #[T,T,T,T,T,T,T,T,T] rfl rfl (any_of HT_.out (z_0)) (fun _ _ _ h => h) (Or.inl ⟨z_30, ?_⟩) ?_ ?_
      rotate_left
      ·intro w'
       go_simp
       with_reducible rfl
      rotate_left
      ·simp only [Act.put, List.setIfInBounds_toArray, List.set_cons_zero, List.set_cons_succ, i64_w, i32_w]
       rfl
      refine done_ (done_of HT_.out (z_0)) ?_
      try go_wp2
      go_ret
      exact ⟨z_4, z_2⟩
    ·rw [if_neg c4] at H
     exact absurd H (z_10)
   ·rw [if_neg c3] at H
    have c3b0 : decide (x5_1 < (l0.length : Int)) = false := decide_eq_false c3
    clear c3
    obtain rfl := Option.some.inj H
    go_wp2
    go_ret
    exact ⟨z_4, z_2⟩

end Go.Proofs.Ytmgnmgobibpjjaa.GFnExactKeptFind
