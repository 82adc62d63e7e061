/- What the Go functions that FnKeptFind reaches come to, walked step by step; there is no condition beyond those each statement names. -/
import Derived.Laws.Cover1
import Derived.Test.YtmgnmgobibpjjaaGFnKeptFindx0
import Derived.Test.YtmgnmgobibpjjaaGFnKeptFindx8
namespace Go.Proofs.Ytmgnmgobibpjjaa.GFnKeptFind
open Go.RowKit Go.Proofs.YtmgnmgobibpjjaaVKeptFind.PrintWords Go.Proofs.YtmgnmgobibpjjaaVKeptFind.PrintLast Go.Proofs.YtmgnmgobibpjjaaVKeptFind.PrintMore
open Bool renaming true → T, false → F
attribute [local go_sem] max2_int min2_int max_two min_two max_three min_three max_four min_four   -- for this text's walks alone
set_option linter.unusedVariables false
set_option linter.unusedSimpArgs false

/-! ### spec_NamesOk: function 25 -/
def spec_NamesOk.l0 : Nat → List (S26) → Int → Option (Bool)
 | 0, _, _ => none
 | k + 1, x0, x3 => if x3 < (x0.length : Int) then (if 0 ≤ x3 then ((spec_NameOk.f k ((rd_T26 x0 x3).f0) ((rd_T26 x0 x3).f1) ((rd_T26 x0 x3).f2) ((rd_T26 x0 x3).f3) ((rd_T26 x0 x3).f4)).bind fun t235 => (if t235 = true then (if ((rd_T26 x0 x3).f1) = 0 then (some false) else (if x3 > 0 then (if 0 ≤ (wrap64 (x3 - 1)) then (if (wrap64 (x3 - 1)) < (x0.length : Int) then (if ((Op.bytesLess (((rd_T26 x0 (wrap64 (x3 - 1))).f0).toList) (((rd_T26 x0 x3).f0).toList)) = true) then (spec_NamesOk.l0 k x0 (wrap64 (x3 + 1))) else (some false)) else (none)) else (none)) else (spec_NamesOk.l0 k x0 (wrap64 (x3 + 1))))) else (some false))) else (none)) else (some (decide ((x0.length : Int) ≤ 8)))
def spec_NamesOk.f (k : Nat) (l0 : List (S26)) : Option (Bool) := spec_NamesOk.l0 k l0 0
theorem spec_NamesOk.mono_l : ∀ k, (∀ y0 y1, LeO (spec_NamesOk.l0 k y0 y1) (spec_NamesOk.l0 (k + 1) y0 y1))
 | 0 => fun _ _ r h => by simp [spec_NamesOk.l0] at h
 | k + 1 => by
  have ih0 := spec_NamesOk.mono_l k
  ·intro y0 y1
   unfold spec_NamesOk.l0
   repeat' first
   | (with_reducible exact ih0 _ _)
   | (with_reducible exact spec_NameOk.mono _ _ _ _ _ _)
   | (with_reducible exact LeO.refl _)
   | (with_reducible exact LeO.none _)
   | (with_reducible refine LeO.ite ?_ ?_)
   | (with_reducible refine LeO.bind ?_ (fun _ => ?_))
   | exact ih0 _ _
   | exact spec_NameOk.mono _ _ _ _ _ _
   | exact LeO.none _
   | refine LeO.ite ?_ ?_
   | refine LeO.bind ?_ (fun _ => ?_)
theorem spec_NamesOk.mono : ∀ a0 k, LeO (spec_NamesOk.f k a0) (spec_NamesOk.f (k + 1) a0) := by
 intro a0 k
 have ih0 := spec_NamesOk.mono_l k
 unfold spec_NamesOk.f
 repeat' first
   | (with_reducible exact ih0 _ _)
   | (with_reducible exact spec_NameOk.mono _ _ _ _ _ _)
   | (with_reducible exact LeO.refl _)
   | (with_reducible exact LeO.none _)
   | (with_reducible refine LeO.ite ?_ ?_)
   | (with_reducible refine LeO.bind ?_ (fun _ => ?_))
   | exact ih0 _ _
   | exact spec_NameOk.mono _ _ _ _ _ _
   | exact LeO.none _
   | refine LeO.ite ?_ ?_
   | refine LeO.bind ?_ (fun _ => ?_)
def spec_NamesOk.T4 : Bool × List (List Nat × List Nat) := (true, [([], []), ([], []), ([0, 1], [0, 1]), ([2], [2]), ([3], [3]), ([4], [4]), ([5, 4], [5]), ([6], [6]), ([6], [6]), ([7, 8, 6], [6, 7, 8]), ([9, 6], [6, 9]), ([10, 6], [6, 10]), ([11, 6], [6, 11]), ([6, 12], [6, 12]), ([13, 6], [13]), ([14], [14]), ([15, 14], [14, 15]), ([16, 14, 14], [14, 16]), ([17], [17]), ([17], [17]), ([19, 17], [17, 19]), ([18, 20, 17], [17, 18, 20]), ([21, 17], [17, 21]), ([22, 17], [17, 22]), ([17], [17]), ([17], [17]), ([24, 25, 17], [17, 24, 25]), ([26, 17], [17, 26]), ([27, 17], [17, 27]), ([23, 28, 17], [17, 23, 28]), ([17, 29, 14], [14, 17, 29]), ([14, 30], [14, 30])])
def spec_NamesOk.B4 : List Nat := [0, 0, 3, 7, 15, 31, 63, 127, 127, 511, 1023, 2047, 4095, 8191, 16383, 32767, 65535, 131071, 262143, 262143, 786431, 2097151, 4194303, 8388607, 262143, 262143, 50593791, 117702655, 251920383, 536870911, 1073741823, 2147483647]
theorem spec_NamesOk.tab4 : rtab .any (opsOf Try.f25 4) = spec_NamesOk.T4 := z_0
theorem spec_NamesOk.bits4 : waitsOk spec_NamesOk.T4.2 spec_NamesOk.B4 = true := z_0
set_option maxHeartbeats 8000000 in
set_option maxRecDepth 100000 in
theorem spec_NamesOk.calls (k : Nat) (A0 : Option Addr) (c0 : Nat) (l0 : List (S26)) (r : Bool) (w : World) (hr0 : Kd.C k26 w A0 l0.length l0) (hc0 : l0.length ≤ c0) (h : spec_NamesOk.f k l0 = some r) :
  Calls Try.prog 25 #[.slice A0 l0.length c0] w fun e w' => e = .returned (.bool r) ∧ Below w.heap.size w w' := by
 have hu26 := Try.underlying26
 have HR0 := Aside0.mk hr0
 have HC0 := Aside0.mk hc0
 clear hr0 hc0
 have HB := Aside0.mk (Below.refl w.heap.size w)
 have H : (spec_NamesOk.l0 k l0 0) = some r := h
 clear h
 have H' := Aside0.mk H
 clear H
 go_enter Try.func25, Try.ntmps25
 go_wp2
 go_loopg [3] k (fun kq v3 w' => ∃ (x3_1 : Int), v3 = .int .i64 x3_1 ∧ Aside0 (spec_NamesOk.l0 kq l0 x3_1 = some r) ∧ Aside0 (kq ≤ k) ∧ Aside0 (Below w.heap.size w w'))
 case atStart => exact ⟨(0), (z_3), H', ⟨Nat.le_refl _⟩, ⟨z_8⟩⟩
 case round =>
  clear H'
  obtain ⟨x3_1, rfl, HA, HK1, HB⟩ := hrel
  cases gk with
  | zero => exact absurd HA.out (by simp [spec_NamesOk.l0])
  | succ k1 =>
   have H := HA.out
   clear HA
   simp only [spec_NamesOk.l0] at H
   by_cases c2 : x3_1 < (l0.length : Int)
   ·rw [if_pos c2] at H
    have c2b0 : decide (x3_1 < (l0.length : Int)) = true := decide_eq_true c2
    clear c2
    by_cases c3 : 0 ≤ x3_1
    ·rw [if_pos c3] at H
     have c3b0 : decide (0 ≤ x3_1) = true := decide_eq_true c3
     clear c3
     replace H := Option.bind_eq_some_iff.mp H
     obtain ⟨t235, A40, H⟩ := H
     have A4 := Aside0.mk A40
     clear A40
     by_cases c5 : t235 = true
     ·subst c5
      rw [if_pos rfl] at H
      by_cases c6 : ((rd_T26 l0 x3_1).f1) = 0
      ·rw [if_pos c6] at H
       have c6b0 : (((rd_T26 l0 x3_1).f1) == 0) = true := beq_iff_eq.mpr c6
       have c6b1 : (((rd_T26 l0 x3_1).f1) != 0) = false := bne_eq_false_iff_eq.mpr c6
       clear c6
       obtain rfl := Option.some.inj H
       try go_wp2
       have n0_ := Aside0.mk (below_drew1 HB.out)
       clear HB
       have HB := n0_
       clear n0_
       have p234 : 0 ≤ (x3_1 : Int) := of_decide_eq_true (z_7)
       have q234 : x3_1 < (l0.length : Int) := of_decide_eq_true (z_7)
       obtain ⟨ad234, e234, hx234_0, hx234_1, hx234_2, hx234_3, hx234_4⟩ := at_T26 HR0.out x3_1 p234 q234
       have hw234_4 := hx234_4
       have hw234_3 := hx234_3
       have hw234_2 := hx234_2
       have hw234_1 := hx234_1
       have hw234_0 := hx234_0
       cases e234
       replace hx234_0 := pw_cell_below HB.out hx234_0
       replace hx234_1 := pw_cell_below HB.out hx234_1
       replace hx234_2 := pw_cell_below HB.out hx234_2
       replace hx234_3 := pw_cell_below HB.out hx234_3
       replace hx234_4 := pw_cell_below HB.out hx234_4
       replace p234 := eq_true p234
       replace q234 := eq_true q234
       have p236 : 0 ≤ (x3_1 : Int) := of_decide_eq_true (z_7)
       have q236 : x3_1 < (l0.length : Int) := of_decide_eq_true (z_7)
       obtain ⟨ad236, e236, hx236_0, hx236_1, hx236_2, hx236_3, hx236_4⟩ := at_T26 HR0.out x3_1 p236 q236
       have hw236_4 := hx236_4
       have hw236_3 := hx236_3
       have hw236_2 := hx236_2
       have hw236_1 := hx236_1
       have hw236_0 := hx236_0
       obtain rfl : ad234 = ad236 := (by injection e236)
       replace hx236_0 := pw_cell_below HB.out hx236_0
       replace hx236_1 := pw_cell_below HB.out hx236_1
       replace hx236_2 := pw_cell_below HB.out hx236_2
       replace hx236_3 := pw_cell_below HB.out hx236_3
       replace hx236_4 := pw_cell_below HB.out hx236_4
       replace p236 := eq_true p236
       replace q236 := eq_true q236
       refine start_ (n := 32) (S := fun w' => w'.cell? (ad234.add ((x3_1).toNat * 5)) = some (.string ((rd_T26 l0 x3_1).f0)) ∧ w'.cell? ⟨(ad234.add ((x3_1).toNat * 5)).block, (ad234.add ((x3_1).toNat * 5)).off + 1, none⟩ = some (.int .i64 ((rd_T26 l0 x3_1).f1)) ∧ w'.cell? ⟨(ad234.add ((x3_1).toNat * 5)).block, (ad234.add ((x3_1).toNat * 5)).off + 2, none⟩ = some (.int .i64 ((rd_T26 l0 x3_1).f2)) ∧ w'.cell? ⟨(ad234.add ((x3_1).toNat * 5)).block, (ad234.add ((x3_1).toNat * 5)).off + 3, none⟩ = some (.string ((rd_T26 l0 x3_1).f3)) ∧ w'.cell? ⟨(ad234.add ((x3_1).toNat * 5)).block, (ad234.add ((x3_1).toNat * 5)).off + 4, none⟩ = some (.int .i64 ((rd_T26 l0 x3_1).f4)) ∧ w'.cell? (ad234.add ((x3_1).toNat * 5)) = some (.string ((rd_T26 l0 x3_1).f0)) ∧ w'.cell? ⟨(ad234.add ((x3_1).toNat * 5)).block, (ad234.add ((x3_1).toNat * 5)).off + 1, none⟩ = some (.int .i64 ((rd_T26 l0 x3_1).f1)) ∧ w'.cell? ⟨(ad234.add ((x3_1).toNat * 5)).block, (ad234.add ((x3_1).toNat * 5)).off + 2, none⟩ = some (.int .i64 ((rd_T26 l0 x3_1).f2)) ∧ w'.cell? ⟨(ad234.add ((x3_1).toNat * 5)).block, (ad234.add ((x3_1).toNat * 5)).off + 3, none⟩ = some (.string ((rd_T26 l0 x3_1).f3)) ∧ w'.cell? ⟨(ad234.add ((x3_1).toNat * 5)).block, (ad234.add ((x3_1).toNat * 5)).off + 4, none⟩ = some (.int .i64 ((rd_T26 l0 x3_1).f4))) (ds := []) #[F,F,F,F,F,F,F,F,F,F,F,F,F,F,F,F,F,F,F,F,F,F,F,F,F,F,F,F,F,F,F,F] (z_0) rfl rfl ⟨(pw_cell_below HB.out hw234_0), (pw_cell_below HB.out hw234_1), (pw_cell_below HB.out hw234_2), (pw_cell_below HB.out hw234_3), (pw_cell_below HB.out hw234_4), (pw_cell_below HB.out hw236_0), (pw_cell_below HB.out hw236_1), (pw_cell_below HB.out hw236_2), (pw_cell_below HB.out hw236_3), (pw_cell_below HB.out hw236_4)⟩ (fun hHeld => ?_); refine with_tabW spec_NamesOk.tab4 spec_NamesOk.bits4 (fun HT_ HW_ => ?_)
       generalize wr.drew = w7 at HB hx234_0 hx234_1 hx234_2 hx234_3 hx234_4 hx236_0 hx236_1 hx236_2 hx236_3 hx236_4 hHeld ⊢
       refine pure_ (i := 0) (N := some 10) (v := ?_) (a' := ?_) #[T,F,F,F,F,F,F,F,F,F,F,F,F,F,F,F,F,F,F,F,F,F,F,F,F,F,F,F,F,F,F,F] rfl rfl (any_of HT_.out (z_0)) (fun _ _ _ h => h) (Or.inl ⟨z_1, ?_⟩) ?_ ?_
       rotate_left
       ·intro w'
        go_simp
        with_reducible rfl
       rotate_left
       ·simp only [Act.put, List.setIfInBounds_toArray, List.set_cons_zero, List.set_cons_succ, i64_w, i32_w]
        rfl
       refine pure_ (i := 1) (N := some 11) (v := ?_) (a' := ?_) #[T,T,F,F,F,F,F,F,F,F,F,F,F,F,F,F,F,F,F,F,F,F,F,F,F,F,F,F,F,F,F,F] rfl rfl (any_of HT_.out (z_0)) (fun _ _ _ h => h) (Or.inl ⟨z_1, ?_⟩) ?_ ?_
       rotate_left
       ·intro w'
        go_simp
        with_reducible rfl
       rotate_left
       ·simp only [Act.put, List.setIfInBounds_toArray, List.set_cons_zero, List.set_cons_succ, i64_w, i32_w]
        rfl
       refine pure_ (i := 2) (N := some 12) (v := ?_) (a' := ?_) #[T,T,T,F,F,F,F,F,F,F,F,F,F,F,F,F,F,F,F,F,F,F,F,F,F,F,F,F,F,F,F,F] rfl rfl (any_of HT_.out (z_0)) (fun _ _ _ h => h) (Or.inl ⟨z_1, ?_⟩) ?_ ?_
       rotate_left
       ·intro w'
        go_simp
        with_reducible rfl
       rotate_left
       ·simp only [Act.put, List.setIfInBounds_toArray, List.set_cons_zero, List.set_cons_succ, i64_w, i32_w]
        rfl
       refine take_ (i := 3) (N := some 13) (v := ?_) (a' := ?_) #[T,T,T,T,F,F,F,F,F,F,F,F,F,F,F,F,F,F,F,F,F,F,F,F,F,F,F,F,F,F,F,F] rfl rfl (take_ofW HT_.out HW_.out (z_0)) (fun _ _ _ h => h) (Or.inl ⟨z_1, ?_⟩) hHeld ?_ ?_
       rotate_left
       ·rintro w' ⟨s0, s1, s2, s3, s4, s5, s6, s7, s8, s9⟩
        go_simp
        with_reducible rfl
       rotate_left
       ·simp only [Act.put, List.setIfInBounds_toArray, List.set_cons_zero, List.set_cons_succ, i64_w, i32_w]
        rfl
       refine one_ (i := 4) (N := some 14) #[T,T,T,T,T,F,F,F,F,F,F,F,F,F,F,F,F,F,F,F,F,F,F,F,F,F,F,F,F,F,F,F] rfl rfl (one_of HT_.out (z_0)) (z_5) (fun K hK => ?_)
       refine goes_ Try.func19 (z_0) rfl #[.agg #[.string ((rd_T26 l0 x3_1).f0), .int .i64 ((rd_T26 l0 x3_1).f1), .int .i64 ((rd_T26 l0 x3_1).f2), .string ((rd_T26 l0 x3_1).f3), .int .i64 ((rd_T26 l0 x3_1).f4)]] (z_1) rfl rfl (z_14) ?_
       with_reducible refine (spec_NameOk.calls k1 ((rd_T26 l0 x3_1).f0) ((rd_T26 l0 x3_1).f1) ((rd_T26 l0 x3_1).f2) ((rd_T26 l0 x3_1).f3) ((rd_T26 l0 x3_1).f4) true _ A4.out).mono ?_
       rintro e w8 ⟨rfl, hb⟩
       refine ⟨_, rfl, ?_⟩
       have n0_ := Aside0.mk (below_step (z_8) hb)
       clear HB
       have HB := n0_
       clear n0_
       (try clear hb)
       (try clear hb2)
       (try clear hk)
       (try clear hi)
       refine hK.out _ _ ⟨(pw_cell_below HB.out hw234_0), (pw_cell_below HB.out hw234_1), (pw_cell_below HB.out hw234_2), (pw_cell_below HB.out hw234_3), (pw_cell_below HB.out hw234_4), (pw_cell_below HB.out hw236_0), (pw_cell_below HB.out hw236_1), (pw_cell_below HB.out hw236_2), (pw_cell_below HB.out hw236_3), (pw_cell_below HB.out hw236_4)⟩ (fun hHeld => ?_)
       clear hK K
       refine norm_ (a' := ?_) ?_ ?_
       rotate_left
       ·show Act.put _ (some 14) _ = _
        simp only [Act.put, List.setIfInBounds_toArray, List.set_cons_zero, List.set_cons_succ, i64_w, i32_w]
        rfl
       refine pure_ (i := 5) (N := some 15) (v := ?_) (a' := ?_) #[T,T,T,T,T,T,F,F,F,F,F,F,F,F,F,F,F,F,F,F,F,F,F,F,F,F,F,F,F,F,F,F] rfl rfl (any_of HT_.out (z_0)) (fun _ _ _ h => h) (Or.inl ⟨z_1, ?_⟩) ?_ ?_
       rotate_left
       ·intro w'
        go_simp
        with_reducible rfl
       rotate_left
       ·simp only [Act.put, List.setIfInBounds_toArray, List.set_cons_zero, List.set_cons_succ, i64_w, i32_w]
        rfl
       refine pure_ (i := 6) (N := some 16) (v := ?_) (a' := ?_) #[T,T,T,T,T,T,T,F,F,F,F,F,F,F,F,F,F,F,F,F,F,F,F,F,F,F,F,F,F,F,F,F] rfl rfl (any_of HT_.out (z_0)) (fun _ _ _ h => h) (Or.inl ⟨z_1, ?_⟩) ?_ ?_
       rotate_left
       ·intro w'
        go_simp
        with_reducible rfl
       rotate_left
       ·simp only [Act.put, List.setIfInBounds_toArray, List.set_cons_zero, List.set_cons_succ, i64_w, i32_w]
        rfl
       refine pure_ (i := 7) (N := some 17) (v := ?_) (a' := ?_) #[T,T,T,T,T,T,T,T,F,F,F,F,F,F,F,F,F,F,F,F,F,F,F,F,F,F,F,F,F,F,F,F] rfl rfl (any_of HT_.out (z_0)) (fun _ _ _ h => h) (Or.inl ⟨z_1, ?_⟩) ?_ ?_
       rotate_left
       ·intro w'
        go_simp
        with_reducible rfl
       rotate_left
       ·simp only [Act.put, List.setIfInBounds_toArray, List.set_cons_zero, List.set_cons_succ, i64_w, i32_w]
        rfl
       refine pure_ (i := 8) (N := some 18) (v := ?_) (a' := ?_) #[T,T,T,T,T,T,T,T,T,F,F,F,F,F,F,F,F,F,F,F,F,F,F,F,F,F,F,F,F,F,F,F] rfl rfl (any_of HT_.out (z_0)) (fun _ _ _ h => h) (Or.inl ⟨z_1, ?_⟩) ?_ ?_
       rotate_left
       ·intro w'
        go_simp
        with_reducible rfl
       rotate_left
       ·simp only [Act.put, List.setIfInBounds_toArray, List.set_cons_zero, List.set_cons_succ, i64_w, i32_w]
        rfl
       refine pure_ (i := 9) (N := some 19) (v := ?_) (a' := ?_) #[T,T,T,T,T,T,T,T,T,T,F,F,F,F,F,F,F,F,F,F,F,F,F,F,F,F,F,F,F,F,F,F] rfl rfl (any_of HT_.out (z_0)) (fun _ _ _ h => h) (Or.inl ⟨z_1, ?_⟩) ?_ ?_
       rotate_left
       ·intro w'
        go_simp
        with_reducible rfl
       rotate_left
       ·simp only [Act.put, List.setIfInBounds_toArray, List.set_cons_zero, List.set_cons_succ, i64_w, i32_w]
        rfl
       refine pure_ (i := 10) (N := some 20) (v := ?_) (a' := ?_) #[T,T,T,T,T,T,T,T,T,T,T,F,F,F,F,F,F,F,F,F,F,F,F,F,F,F,F,F,F,F,F,F] rfl rfl (any_of HT_.out (z_0)) (fun _ _ _ h => h) (Or.inl ⟨z_1, ?_⟩) ?_ ?_
       rotate_left
       ·intro w'
        go_simp
        with_reducible rfl
       rotate_left
       ·simp only [Act.put, List.setIfInBounds_toArray, List.set_cons_zero, List.set_cons_succ, i64_w, i32_w]
        rfl
       refine take_ (i := 11) (N := some 21) (v := ?_) (a' := ?_) #[T,T,T,T,T,T,T,T,T,T,T,T,F,F,F,F,F,F,F,F,F,F,F,F,F,F,F,F,F,F,F,F] rfl rfl (take_ofW HT_.out HW_.out (z_0)) (fun _ _ _ h => h) (Or.inl ⟨z_1, ?_⟩) hHeld ?_ ?_
       rotate_left
       ·rintro w' ⟨s0, s1, s2, s3, s4, s5, s6, s7, s8, s9⟩
        go_simp
        with_reducible rfl
       rotate_left
       ·simp only [Act.put, List.setIfInBounds_toArray, List.set_cons_zero, List.set_cons_succ, i64_w, i32_w]
        rfl
       refine pure_ (i := 12) (N := some 22) (v := ?_) (a' := ?_) #[T,T,T,T,T,T,T,T,T,T,T,T,T,F,F,F,F,F,F,F,F,F,F,F,F,F,F,F,F,F,F,F] rfl rfl (any_of HT_.out (z_0)) (fun _ _ _ h => h) (Or.inl ⟨z_1, ?_⟩) ?_ ?_
       rotate_left
       ·intro w'
        go_simp
        with_reducible rfl
       rotate_left
       ·simp only [Act.put, List.setIfInBounds_toArray, List.set_cons_zero, List.set_cons_succ, i64_w, i32_w]
        rfl
       refine pure_ (i := 13) (N := some 23) (v := ?_) (a' := ?_) #[T,T,T,T,T,T,T,T,T,T,T,T,T,T,F,F,F,F,F,F,F,F,F,F,F,F,F,F,F,F,F,F] rfl rfl (any_of HT_.out (z_0)) (fun _ _ _ h => h) (Or.inl ⟨z_1, ?_⟩) ?_ ?_
       rotate_left
       ·intro w'
        go_simp
        with_reducible rfl
       rotate_left
       ·simp only [Act.put, List.setIfInBounds_toArray, List.set_cons_zero, List.set_cons_succ, i64_w, i32_w]
        rfl
       refine pure_ (i := 14) (N := some 24) (v := ?_) (a' := ?_) #[T,T,T,T,T,T,T,T,T,T,T,T,T,T,T,F,F,F,F,F,F,F,F,F,F,F,F,F,F,F,F,F] rfl rfl (any_of HT_.out (z_0)) (fun _ _ _ h => h) (Or.inl ⟨z_1, ?_⟩) ?_ ?_
       rotate_left
       ·intro w'
        go_simp
        with_reducible rfl
       rotate_left
       ·simp only [Act.put, List.setIfInBounds_toArray, List.set_cons_zero, List.set_cons_succ, i64_w, i32_w]
        rfl
       refine pure_ (i := 15) (N := some 25) (v := undef) (a' := ?_) #[T,T,T,T,T,T,T,T,T,T,T,T,T,T,T,T,F,F,F,F,F,F,F,F,F,F,F,F,F,F,F,F] rfl rfl (any_of HT_.out (z_0)) (fun _ _ _ h => h) (Or.inr ⟨z_1, rfl⟩) ?_ ?_
       rotate_left
       ·simp only [Act.put, List.setIfInBounds_toArray, List.set_cons_zero, List.set_cons_succ, i64_w, i32_w]
        rfl
       refine pure_ (i := 16) (N := some 26) (v := undef) (a' := ?_) #[T,T,T,T,T,T,T,T,T,T,T,T,T,T,T,T,T,F,F,F,F,F,F,F,F,F,F,F,F,F,F,F] rfl rfl (any_of HT_.out (z_0)) (fun _ _ _ h => h) (Or.inr ⟨z_1, rfl⟩) ?_ ?_
       rotate_left
       ·simp only [Act.put, List.setIfInBounds_toArray, List.set_cons_zero, List.set_cons_succ, i64_w, i32_w]
        rfl
       refine pure_ (i := 17) (N := some 27) (v := undef) (a' := ?_) #[T,T,T,T,T,T,T,T,T,T,T,T,T,T,T,T,T,T,F,F,F,F,F,F,F,F,F,F,F,F,F,F] rfl rfl (any_of HT_.out (z_0)) (fun _ _ _ h => h) (Or.inr ⟨z_1, rfl⟩) ?_ ?_
       rotate_left
       ·simp only [Act.put, List.setIfInBounds_toArray, List.set_cons_zero, List.set_cons_succ, i64_w, i32_w]
        rfl
       refine pure_ (i := 18) (N := some 28) (v := undef) (a' := ?_) #[T,T,T,T,T,T,T,T,T,T,T,T,T,T,T,T,T,T,T,F,F,F,F,F,F,F,F,F,F,F,F,F] rfl rfl (any_of HT_.out (z_0)) (fun _ _ _ h => h) (Or.inr ⟨z_1, rfl⟩) ?_ ?_
       rotate_left
       ·simp only [Act.put, List.setIfInBounds_toArray, List.set_cons_zero, List.set_cons_succ, i64_w, i32_w]
        rfl
       refine pure_ (i := 19) (N := some 29) (v := undef) (a' := ?_) #[T,T,T,T,T,T,T,T,T,T,T,T,T,T,T,T,T,T,T,T,F,F,F,F,F,F,F,F,F,F,F,F] rfl rfl (any_of HT_.out (z_0)) (fun _ _ _ h => h) (Or.inr ⟨z_1, rfl⟩) ?_ ?_
       rotate_left
       ·simp only [Act.put, List.setIfInBounds_toArray, List.set_cons_zero, List.set_cons_succ, i64_w, i32_w]
        rfl
       refine pure_ (i := 20) (N := some 30) (v := undef) (a' := ?_) #[T,T,T,T,T,T,T,T,T,T,T,T,T,T,T,T,T,T,T,T,T,F,F,F,F,F,F,F,F,F,F,F] rfl rfl (any_of HT_.out (z_0)) (fun _ _ _ h => h) (Or.inr ⟨z_1, rfl⟩) ?_ ?_
       rotate_left
       ·simp only [Act.put, List.setIfInBounds_toArray, List.set_cons_zero, List.set_cons_succ, i64_w, i32_w]
        rfl
       refine pure_ (i := 21) (N := some 31) (v := undef) (a' := ?_) #[T,T,T,T,T,T,T,T,T,T,T,T,T,T,T,T,T,T,T,T,T,T,F,F,F,F,F,F,F,F,F,F] rfl rfl (any_of HT_.out (z_0)) (fun _ _ _ h => h) (Or.inr ⟨z_1, rfl⟩) ?_ ?_
       rotate_left
       ·simp only [Act.put, List.setIfInBounds_toArray, List.set_cons_zero, List.set_cons_succ, i64_w, i32_w]
        rfl
       refine pure_ (i := 22) (N := some 32) (v := undef) (a' := ?_) #[T,T,T,T,T,T,T,T,T,T,T,T,T,T,T,T,T,T,T,T,T,T,T,F,F,F,F,F,F,F,F,F] rfl rfl (any_of HT_.out (z_0)) (fun _ _ _ h => h) (Or.inr ⟨z_1, rfl⟩) ?_ ?_
       rotate_left
       ·simp only [Act.put, List.setIfInBounds_toArray, List.set_cons_zero, List.set_cons_succ, i64_w, i32_w]
        rfl
       refine pure_ (i := 23) (N := some 33) (v := undef) (a' := ?_) #[T,T,T,T,T,T,T,T,T,T,T,T,T,T,T,T,T,T,T,T,T,T,T,T,F,F,F,F,F,F,F,F] rfl rfl (any_of HT_.out (z_0)) (fun _ _ _ h => h) (Or.inr ⟨z_1, rfl⟩) ?_ ?_
       rotate_left
       ·simp only [Act.put, List.setIfInBounds_toArray, List.set_cons_zero, List.set_cons_succ, i64_w, i32_w]
        rfl
       refine pure_ (i := 24) (N := some 34) (v := undef) (a' := ?_) #[T,T,T,T,T,T,T,T,T,T,T,T,T,T,T,T,T,T,T,T,T,T,T,T,T,F,F,F,F,F,F,F] rfl rfl (any_of HT_.out (z_0)) (fun _ _ _ h => h) (Or.inr ⟨z_1, rfl⟩) ?_ ?_
       rotate_left
       ·simp only [Act.put, List.setIfInBounds_toArray, List.set_cons_zero, List.set_cons_succ, i64_w, i32_w]
        rfl
       refine pure_ (i := 25) (N := some 35) (v := undef) (a' := ?_) #[T,T,T,T,T,T,T,T,T,T,T,T,T,T,T,T,T,T,T,T,T,T,T,T,T,T,F,F,F,F,F,F] rfl rfl (any_of HT_.out (z_0)) (fun _ _ _ h => h) (Or.inr ⟨z_1, rfl⟩) ?_ ?_
       rotate_left
       ·simp only [Act.put, List.setIfInBounds_toArray, List.set_cons_zero, List.set_cons_succ, i64_w, i32_w]
        rfl
       refine pure_ (i := 26) (N := some 36) (v := undef) (a' := ?_) #[T,T,T,T,T,T,T,T,T,T,T,T,T,T,T,T,T,T,T,T,T,T,T,T,T,T,T,F,F,F,F,F] rfl rfl (any_of HT_.out (z_0)) (fun _ _ _ h => h) (Or.inr ⟨z_1, rfl⟩) ?_ ?_
       rotate_left
       ·simp only [Act.put, List.setIfInBounds_toArray, List.set_cons_zero, List.set_cons_succ, i64_w, i32_w]
        rfl
       refine pure_ (i := 27) (N := some 37) (v := undef) (a' := ?_) #[T,T,T,T,T,T,T,T,T,T,T,T,T,T,T,T,T,T,T,T,T,T,T,T,T,T,T,T,F,F,F,F] rfl rfl (any_of HT_.out (z_0)) (fun _ _ _ h => h) (Or.inr ⟨z_1, rfl⟩) ?_ ?_
       rotate_left
       ·simp only [Act.put, List.setIfInBounds_toArray, List.set_cons_zero, List.set_cons_succ, i64_w, i32_w]
        rfl
       refine pure_ (i := 28) (N := some 38) (v := undef) (a' := ?_) #[T,T,T,T,T,T,T,T,T,T,T,T,T,T,T,T,T,T,T,T,T,T,T,T,T,T,T,T,T,F,F,F] rfl rfl (any_of HT_.out (z_0)) (fun _ _ _ h => h) (Or.inr ⟨z_1, rfl⟩) ?_ ?_
       rotate_left
       ·simp only [Act.put, List.setIfInBounds_toArray, List.set_cons_zero, List.set_cons_succ, i64_w, i32_w]
        rfl
       refine pure_ (i := 29) (N := some 39) (v := undef) (a' := ?_) #[T,T,T,T,T,T,T,T,T,T,T,T,T,T,T,T,T,T,T,T,T,T,T,T,T,T,T,T,T,T,F,F] rfl rfl (any_of HT_.out (z_0)) (fun _ _ _ h => h) (Or.inr ⟨z_1, rfl⟩) ?_ ?_
       rotate_left
       ·simp only [Act.put, List.setIfInBounds_toArray, List.set_cons_zero, List.set_cons_succ, i64_w, i32_w]
        rfl
       refine pure_ (i := 30) (N := some 40) (v := undef) (a' := ?_) #[T,T,T,T,T,T,T,T,T,T,T,T,T,T,T,T,T,T,T,T,T,T,T,T,T,T,T,T,T,T,T,F] rfl rfl (any_of HT_.out (z_0)) (fun _ _ _ h => h) (Or.inr ⟨z_1, rfl⟩) ?_ ?_
       rotate_left
       ·simp only [Act.put, List.setIfInBounds_toArray, List.set_cons_zero, List.set_cons_succ, i64_w, i32_w]
        rfl
       refine pure_ (i := 31) (N := some 41) (v := ?_) (a' := ?_) #[T,T,T,T,T,T,T,T,T,T,T,T,T,T,T,T,T,T,T,T,T,T,T,T,T,T,T,T,T,T,T,T] rfl rfl (any_of HT_.out (z_0)) (fun _ _ _ h => h) (Or.inl ⟨z_1, ?_⟩) ?_ ?_
       rotate_left
       ·intro w'
        go_simp
        with_reducible rfl
       rotate_left
       ·simp only [Act.put, List.setIfInBounds_toArray, List.set_cons_zero, List.set_cons_succ, i64_w, i32_w]
        rfl
       refine done_ (done_of HT_.out (z_0)) ?_
       try go_wp2
       go_ret
       exact ⟨z_13, z_8⟩
      ·rw [if_neg c6] at H
       have c6b0 : (((rd_T26 l0 x3_1).f1) == 0) = false := beq_eq_false_iff_ne.mpr c6
       have c6b1 : (((rd_T26 l0 x3_1).f1) != 0) = true := bne_iff_ne.mpr c6
       by_cases c9 : x3_1 > 0
       ·rw [if_pos c9] at H
        have c9b0 : decide (0 < x3_1) = true := decide_eq_true c9
        clear c9
        obtain ⟨ji10, hji10⟩ : ∃ j_ : Int, (wrap64 (x3_1 - 1)) = j_ := ⟨_, rfl⟩
        replace H : (if 0 ≤ (ji10) then (if (ji10) < (l0.length : Int) then (if ((Op.bytesLess (((rd_T26 l0 (ji10)).f0).toList) (((rd_T26 l0 x3_1).f0).toList)) = true) then (spec_NamesOk.l0 k1 l0 (wrap64 (x3_1 + 1))) else (some false)) else (none)) else (none)) = some r := by first | (rw [hji10] at H; exact H) | (simp only [hji10] at H ⊢; exact H)
        (try rw [hji10] at A4)
        have hji10w : (IntKind.i64.wrap (x3_1 - 1)) = ji10 := (i64_w _).trans hji10
        by_cases c11 : 0 ≤ (ji10)
        ·rw [if_pos c11] at H
         have c11b0 : decide (0 ≤ (ji10)) = true := decide_eq_true c11
         clear c11
         by_cases c12 : (ji10) < (l0.length : Int)
         ·rw [if_pos c12] at H
          have c12b0 : decide ((ji10) < (l0.length : Int)) = true := decide_eq_true c12
          clear c12
          by_cases c13 : ((Op.bytesLess (((rd_T26 l0 (ji10)).f0).toList) (((rd_T26 l0 x3_1).f0).toList)) = true)
          ·rw [if_pos c13] at H
           have c13b0 : (Op.bytesLess (((rd_T26 l0 (ji10)).f0).toList) (((rd_T26 l0 x3_1).f0).toList)) = true := c13
           clear c13
           have H' := Aside0.mk H
           clear H
           try go_wp2
           have n0_ := Aside0.mk (below_drew1 HB.out)
           clear HB
           have HB := n0_
           clear n0_
           have p234 : 0 ≤ (x3_1 : Int) := of_decide_eq_true (z_7)
           have q234 : x3_1 < (l0.length : Int) := of_decide_eq_true (z_7)
           obtain ⟨ad234, e234, hx234_0, hx234_1, hx234_2, hx234_3, hx234_4⟩ := at_T26 HR0.out x3_1 p234 q234
           have hw234_4 := hx234_4
           have hw234_3 := hx234_3
           have hw234_2 := hx234_2
           have hw234_1 := hx234_1
           have hw234_0 := hx234_0
           cases e234
           replace hx234_0 := pw_cell_below HB.out hx234_0
           replace hx234_1 := pw_cell_below HB.out hx234_1
           replace hx234_2 := pw_cell_below HB.out hx234_2
           replace hx234_3 := pw_cell_below HB.out hx234_3
           replace hx234_4 := pw_cell_below HB.out hx234_4
           replace p234 := eq_true p234
           replace q234 := eq_true q234
           have p236 : 0 ≤ (x3_1 : Int) := of_decide_eq_true (z_7)
           have q236 : x3_1 < (l0.length : Int) := of_decide_eq_true (z_7)
           obtain ⟨ad236, e236, hx236_0, hx236_1, hx236_2, hx236_3, hx236_4⟩ := at_T26 HR0.out x3_1 p236 q236
           have hw236_4 := hx236_4
           have hw236_3 := hx236_3
           have hw236_2 := hx236_2
           have hw236_1 := hx236_1
           have hw236_0 := hx236_0
           obtain rfl : ad234 = ad236 := (by injection e236)
           replace hx236_0 := pw_cell_below HB.out hx236_0
           replace hx236_1 := pw_cell_below HB.out hx236_1
           replace hx236_2 := pw_cell_below HB.out hx236_2
           replace hx236_3 := pw_cell_below HB.out hx236_3
           replace hx236_4 := pw_cell_below HB.out hx236_4
           replace p236 := eq_true p236
           replace q236 := eq_true q236
           have p237 : 0 ≤ ((ji10) : Int) := of_decide_eq_true (z_7)
           have q237 : (ji10) < (l0.length : Int) := of_decide_eq_true (z_7)
           obtain ⟨ad237, e237, hx237_0, hx237_1, hx237_2, hx237_3, hx237_4⟩ := at_T26 HR0.out (ji10) p237 q237
           have hw237_4 := hx237_4
           have hw237_3 := hx237_3
           have hw237_2 := hx237_2
           have hw237_1 := hx237_1
           have hw237_0 := hx237_0
           obtain rfl : ad234 = ad237 := (by injection e237)
           replace hx237_0 := pw_cell_below HB.out hx237_0
           replace hx237_1 := pw_cell_below HB.out hx237_1
           replace hx237_2 := pw_cell_below HB.out hx237_2
           replace hx237_3 := pw_cell_below HB.out hx237_3
           replace hx237_4 := pw_cell_below HB.out hx237_4
           replace p237 := eq_true p237
           replace q237 := eq_true q237
           have p238 : 0 ≤ (x3_1 : Int) := of_decide_eq_true (z_7)
           have q238 : x3_1 < (l0.length : Int) := of_decide_eq_true (z_7)
           obtain ⟨ad238, e238, hx238_0, hx238_1, hx238_2, hx238_3, hx238_4⟩ := at_T26 HR0.out x3_1 p238 q238
           have hw238_4 := hx238_4
           have hw238_3 := hx238_3
           have hw238_2 := hx238_2
           have hw238_1 := hx238_1
           have hw238_0 := hx238_0
           obtain rfl : ad234 = ad238 := (by injection e238)
           replace hx238_0 := pw_cell_below HB.out hx238_0
           replace hx238_1 := pw_cell_below HB.out hx238_1
           replace hx238_2 := pw_cell_below HB.out hx238_2
           replace hx238_3 := pw_cell_below HB.out hx238_3
           replace hx238_4 := pw_cell_below HB.out hx238_4
           replace p238 := eq_true p238
           replace q238 := eq_true q238
           refine start_ (n := 32) (S := fun w' => w'.cell? (ad234.add ((x3_1).toNat * 5)) = some (.string ((rd_T26 l0 x3_1).f0)) ∧ w'.cell? ⟨(ad234.add ((x3_1).toNat * 5)).block, (ad234.add ((x3_1).toNat * 5)).off + 1, none⟩ = some (.int .i64 ((rd_T26 l0 x3_1).f1)) ∧ w'.cell? ⟨(ad234.add ((x3_1).toNat * 5)).block, (ad234.add ((x3_1).toNat * 5)).off + 2, none⟩ = some (.int .i64 ((rd_T26 l0 x3_1).f2)) ∧ w'.cell? ⟨(ad234.add ((x3_1).toNat * 5)).block, (ad234.add ((x3_1).toNat * 5)).off + 3, none⟩ = some (.string ((rd_T26 l0 x3_1).f3)) ∧ w'.cell? ⟨(ad234.add ((x3_1).toNat * 5)).block, (ad234.add ((x3_1).toNat * 5)).off + 4, none⟩ = some (.int .i64 ((rd_T26 l0 x3_1).f4)) ∧ w'.cell? (ad234.add ((x3_1).toNat * 5)) = some (.string ((rd_T26 l0 x3_1).f0)) ∧ w'.cell? ⟨(ad234.add ((x3_1).toNat * 5)).block, (ad234.add ((x3_1).toNat * 5)).off + 1, none⟩ = some (.int .i64 ((rd_T26 l0 x3_1).f1)) ∧ w'.cell? ⟨(ad234.add ((x3_1).toNat * 5)).block, (ad234.add ((x3_1).toNat * 5)).off + 2, none⟩ = some (.int .i64 ((rd_T26 l0 x3_1).f2)) ∧ w'.cell? ⟨(ad234.add ((x3_1).toNat * 5)).block, (ad234.add ((x3_1).toNat * 5)).off + 3, none⟩ = some (.string ((rd_T26 l0 x3_1).f3)) ∧ w'.cell? ⟨(ad234.add ((x3_1).toNat * 5)).block, (ad234.add ((x3_1).toNat * 5)).off + 4, none⟩ = some (.int .i64 ((rd_T26 l0 x3_1).f4)) ∧ w'.cell? (ad234.add (((ji10)).toNat * 5)) = some (.string ((rd_T26 l0 (ji10)).f0)) ∧ w'.cell? ⟨(ad234.add (((ji10)).toNat * 5)).block, (ad234.add (((ji10)).toNat * 5)).off + 1, none⟩ = some (.int .i64 ((rd_T26 l0 (ji10)).f1)) ∧ w'.cell? ⟨(ad234.add (((ji10)).toNat * 5)).block, (ad234.add (((ji10)).toNat * 5)).off + 2, none⟩ = some (.int .i64 ((rd_T26 l0 (ji10)).f2)) ∧ w'.cell? ⟨(ad234.add (((ji10)).toNat * 5)).block, (ad234.add (((ji10)).toNat * 5)).off + 3, none⟩ = some (.string ((rd_T26 l0 (ji10)).f3)) ∧ w'.cell? ⟨(ad234.add (((ji10)).toNat * 5)).block, (ad234.add (((ji10)).toNat * 5)).off + 4, none⟩ = some (.int .i64 ((rd_T26 l0 (ji10)).f4)) ∧ w'.cell? (ad234.add ((x3_1).toNat * 5)) = some (.string ((rd_T26 l0 x3_1).f0)) ∧ w'.cell? ⟨(ad234.add ((x3_1).toNat * 5)).block, (ad234.add ((x3_1).toNat * 5)).off + 1, none⟩ = some (.int .i64 ((rd_T26 l0 x3_1).f1)) ∧ w'.cell? ⟨(ad234.add ((x3_1).toNat * 5)).block, (ad234.add ((x3_1).toNat * 5)).off + 2, none⟩ = some (.int .i64 ((rd_T26 l0 x3_1).f2)) ∧ w'.cell? ⟨(ad234.add ((x3_1).toNat * 5)).block, (ad234.add ((x3_1).toNat * 5)).off + 3, none⟩ = some (.string ((rd_T26 l0 x3_1).f3)) ∧ w'.cell? ⟨(ad234.add ((x3_1).toNat * 5)).block, (ad234.add ((x3_1).toNat * 5)).off + 4, none⟩ = some (.int .i64 ((rd_T26 l0 x3_1).f4))) (ds := []) #[F,F,F,F,F,F,F,F,F,F,F,F,F,F,F,F,F,F,F,F,F,F,F,F,F,F,F,F,F,F,F,F] (z_0) rfl rfl ⟨(pw_cell_below HB.out hw234_0), (pw_cell_below HB.out hw234_1), (pw_cell_below HB.out hw234_2), (pw_cell_below HB.out hw234_3), (pw_cell_below HB.out hw234_4), (pw_cell_below HB.out hw236_0), (pw_cell_below HB.out hw236_1), (pw_cell_below HB.out hw236_2), (pw_cell_below HB.out hw236_3), (pw_cell_below HB.out hw236_4), (pw_cell_below HB.out hw237_0), (pw_cell_below HB.out hw237_1), (pw_cell_below HB.out hw237_2), (pw_cell_below HB.out hw237_3), (pw_cell_below HB.out hw237_4), (pw_cell_below HB.out hw238_0), (pw_cell_below HB.out hw238_1), (pw_cell_below HB.out hw238_2), (pw_cell_below HB.out hw238_3), (pw_cell_below HB.out hw238_4)⟩ (fun hHeld => ?_); refine with_tabW spec_NamesOk.tab4 spec_NamesOk.bits4 (fun HT_ HW_ => ?_)
           generalize wr.drew = w14 at HB hx234_0 hx234_1 hx234_2 hx234_3 hx234_4 hx236_0 hx236_1 hx236_2 hx236_3 hx236_4 hx237_0 hx237_1 hx237_2 hx237_3 hx237_4 hx238_0 hx238_1 hx238_2 hx238_3 hx238_4 hHeld ⊢
           refine pure_ (i := 0) (N := some 10) (v := ?_) (a' := ?_) #[T,F,F,F,F,F,F,F,F,F,F,F,F,F,F,F,F,F,F,F,F,F,F,F,F,F,F,F,F,F,F,F] rfl rfl (any_of HT_.out (z_0)) (fun _ _ _ h => h) (Or.inl ⟨z_1, ?_⟩) ?_ ?_
           rotate_left
           ·intro w'
            go_simp
            with_reducible rfl
           rotate_left
           ·simp only [Act.put, List.setIfInBounds_toArray, List.set_cons_zero, List.set_cons_succ, i64_w, i32_w]
            rfl
           refine pure_ (i := 1) (N := some 11) (v := ?_) (a' := ?_) #[T,T,F,F,F,F,F,F,F,F,F,F,F,F,F,F,F,F,F,F,F,F,F,F,F,F,F,F,F,F,F,F] rfl rfl (any_of HT_.out (z_0)) (fun _ _ _ h => h) (Or.inl ⟨z_1, ?_⟩) ?_ ?_
           rotate_left
           ·intro w'
            go_simp
            with_reducible rfl
           rotate_left
           ·simp only [Act.put, List.setIfInBounds_toArray, List.set_cons_zero, List.set_cons_succ, i64_w, i32_w]
            rfl
           refine pure_ (i := 2) (N := some 12) (v := ?_) (a' := ?_) #[T,T,T,F,F,F,F,F,F,F,F,F,F,F,F,F,F,F,F,F,F,F,F,F,F,F,F,F,F,F,F,F] rfl rfl (any_of HT_.out (z_0)) (fun _ _ _ h => h) (Or.inl ⟨z_1, ?_⟩) ?_ ?_
           rotate_left
           ·intro w'
            go_simp
            with_reducible rfl
           rotate_left
           ·simp only [Act.put, List.setIfInBounds_toArray, List.set_cons_zero, List.set_cons_succ, i64_w, i32_w]
            rfl
           refine take_ (i := 3) (N := some 13) (v := ?_) (a' := ?_) #[T,T,T,T,F,F,F,F,F,F,F,F,F,F,F,F,F,F,F,F,F,F,F,F,F,F,F,F,F,F,F,F] rfl rfl (take_ofW HT_.out HW_.out (z_0)) (fun _ _ _ h => h) (Or.inl ⟨z_1, ?_⟩) hHeld ?_ ?_
           rotate_left
           ·rintro w' ⟨s0, s1, s2, s3, s4, s5, s6, s7, s8, s9, s10, s11, s12, s13, s14, s15, s16, s17, s18, s19⟩
            go_simp
            with_reducible rfl
           rotate_left
           ·simp only [Act.put, List.setIfInBounds_toArray, List.set_cons_zero, List.set_cons_succ, i64_w, i32_w]
            rfl
           refine one_ (i := 4) (N := some 14) #[T,T,T,T,T,F,F,F,F,F,F,F,F,F,F,F,F,F,F,F,F,F,F,F,F,F,F,F,F,F,F,F] rfl rfl (one_of HT_.out (z_0)) (z_5) (fun K hK => ?_)
           refine goes_ Try.func19 (z_0) rfl #[.agg #[.string ((rd_T26 l0 x3_1).f0), .int .i64 ((rd_T26 l0 x3_1).f1), .int .i64 ((rd_T26 l0 x3_1).f2), .string ((rd_T26 l0 x3_1).f3), .int .i64 ((rd_T26 l0 x3_1).f4)]] (z_1) rfl rfl (z_14) ?_
           with_reducible refine (spec_NameOk.calls k1 ((rd_T26 l0 x3_1).f0) ((rd_T26 l0 x3_1).f1) ((rd_T26 l0 x3_1).f2) ((rd_T26 l0 x3_1).f3) ((rd_T26 l0 x3_1).f4) true _ A4.out).mono ?_
           rintro e w15 ⟨rfl, hb⟩
           refine ⟨_, rfl, ?_⟩
           have n0_ := Aside0.mk (below_step (z_8) hb)
           clear HB
           have HB := n0_
           clear n0_
           (try clear hb)
           (try clear hb2)
           (try clear hk)
           (try clear hi)
           refine hK.out _ _ ⟨(pw_cell_below HB.out hw234_0), (pw_cell_below HB.out hw234_1), (pw_cell_below HB.out hw234_2), (pw_cell_below HB.out hw234_3), (pw_cell_below HB.out hw234_4), (pw_cell_below HB.out hw236_0), (pw_cell_below HB.out hw236_1), (pw_cell_below HB.out hw236_2), (pw_cell_below HB.out hw236_3), (pw_cell_below HB.out hw236_4), (pw_cell_below HB.out hw237_0), (pw_cell_below HB.out hw237_1), (pw_cell_below HB.out hw237_2), (pw_cell_below HB.out hw237_3), (pw_cell_below HB.out hw237_4), (pw_cell_below HB.out hw238_0), (pw_cell_below HB.out hw238_1), (pw_cell_below HB.out hw238_2), (pw_cell_below HB.out hw238_3), (pw_cell_below HB.out hw238_4)⟩ (fun hHeld => ?_)
           clear hK K
           refine norm_ (a' := ?_) ?_ ?_
           rotate_left
           ·show Act.put _ (some 14) _ = _
            simp only [Act.put, List.setIfInBounds_toArray, List.set_cons_zero, List.set_cons_succ, i64_w, i32_w]
            rfl
           refine pure_ (i := 5) (N := some 15) (v := ?_) (a' := ?_) #[T,T,T,T,T,T,F,F,F,F,F,F,F,F,F,F,F,F,F,F,F,F,F,F,F,F,F,F,F,F,F,F] rfl rfl (any_of HT_.out (z_0)) (fun _ _ _ h => h) (Or.inl ⟨z_1, ?_⟩) ?_ ?_
           rotate_left
           ·intro w'
            go_simp
            with_reducible rfl
           rotate_left
           ·simp only [Act.put, List.setIfInBounds_toArray, List.set_cons_zero, List.set_cons_succ, i64_w, i32_w]
            rfl
           refine pure_ (i := 6) (N := some 16) (v := ?_) (a' := ?_) #[T,T,T,T,T,T,T,F,F,F,F,F,F,F,F,F,F,F,F,F,F,F,F,F,F,F,F,F,F,F,F,F] rfl rfl (any_of HT_.out (z_0)) (fun _ _ _ h => h) (Or.inl ⟨z_1, ?_⟩) ?_ ?_
           rotate_left
           ·intro w'
            go_simp
            with_reducible rfl
           rotate_left
           ·simp only [Act.put, List.setIfInBounds_toArray, List.set_cons_zero, List.set_cons_succ, i64_w, i32_w]
            rfl
           refine pure_ (i := 7) (N := some 17) (v := ?_) (a' := ?_) #[T,T,T,T,T,T,T,T,F,F,F,F,F,F,F,F,F,F,F,F,F,F,F,F,F,F,F,F,F,F,F,F] rfl rfl (any_of HT_.out (z_0)) (fun _ _ _ h => h) (Or.inl ⟨z_1, ?_⟩) ?_ ?_
           rotate_left
           ·intro w'
            go_simp
            with_reducible rfl
           rotate_left
           ·simp only [Act.put, List.setIfInBounds_toArray, List.set_cons_zero, List.set_cons_succ, i64_w, i32_w]
            rfl
           refine pure_ (i := 8) (N := some 18) (v := ?_) (a' := ?_) #[T,T,T,T,T,T,T,T,T,F,F,F,F,F,F,F,F,F,F,F,F,F,F,F,F,F,F,F,F,F,F,F] rfl rfl (any_of HT_.out (z_0)) (fun _ _ _ h => h) (Or.inl ⟨z_1, ?_⟩) ?_ ?_
           rotate_left
           ·intro w'
            go_simp
            with_reducible rfl
           rotate_left
           ·simp only [Act.put, List.setIfInBounds_toArray, List.set_cons_zero, List.set_cons_succ, i64_w, i32_w]
            rfl
           refine pure_ (i := 9) (N := some 19) (v := ?_) (a' := ?_) #[T,T,T,T,T,T,T,T,T,T,F,F,F,F,F,F,F,F,F,F,F,F,F,F,F,F,F,F,F,F,F,F] rfl rfl (any_of HT_.out (z_0)) (fun _ _ _ h => h) (Or.inl ⟨z_1, ?_⟩) ?_ ?_
           rotate_left
           ·intro w'
            go_simp
            with_reducible rfl
           rotate_left
           ·simp only [Act.put, List.setIfInBounds_toArray, List.set_cons_zero, List.set_cons_succ, i64_w, i32_w]
            rfl
           refine pure_ (i := 10) (N := some 20) (v := ?_) (a' := ?_) #[T,T,T,T,T,T,T,T,T,T,T,F,F,F,F,F,F,F,F,F,F,F,F,F,F,F,F,F,F,F,F,F] rfl rfl (any_of HT_.out (z_0)) (fun _ _ _ h => h) (Or.inl ⟨z_1, ?_⟩) ?_ ?_
           rotate_left
           ·intro w'
            go_simp
            with_reducible rfl
           rotate_left
           ·simp only [Act.put, List.setIfInBounds_toArray, List.set_cons_zero, List.set_cons_succ, i64_w, i32_w]
            rfl
           refine take_ (i := 11) (N := some 21) (v := ?_) (a' := ?_) #[T,T,T,T,T,T,T,T,T,T,T,T,F,F,F,F,F,F,F,F,F,F,F,F,F,F,F,F,F,F,F,F] rfl rfl (take_ofW HT_.out HW_.out (z_0)) (fun _ _ _ h => h) (Or.inl ⟨z_1, ?_⟩) hHeld ?_ ?_
           rotate_left
           ·rintro w' ⟨s0, s1, s2, s3, s4, s5, s6, s7, s8, s9, s10, s11, s12, s13, s14, s15, s16, s17, s18, s19⟩
            go_simp
            with_reducible rfl
           rotate_left
           ·simp only [Act.put, List.setIfInBounds_toArray, List.set_cons_zero, List.set_cons_succ, i64_w, i32_w]
            rfl
           refine pure_ (i := 12) (N := some 22) (v := ?_) (a' := ?_) #[T,T,T,T,T,T,T,T,T,T,T,T,T,F,F,F,F,F,F,F,F,F,F,F,F,F,F,F,F,F,F,F] rfl rfl (any_of HT_.out (z_0)) (fun _ _ _ h => h) (Or.inl ⟨z_1, ?_⟩) ?_ ?_
           rotate_left
           ·intro w'
            go_simp
            with_reducible rfl
           rotate_left
           ·simp only [Act.put, List.setIfInBounds_toArray, List.set_cons_zero, List.set_cons_succ, i64_w, i32_w]
            rfl
           refine pure_ (i := 13) (N := some 23) (v := ?_) (a' := ?_) #[T,T,T,T,T,T,T,T,T,T,T,T,T,T,F,F,F,F,F,F,F,F,F,F,F,F,F,F,F,F,F,F] rfl rfl (any_of HT_.out (z_0)) (fun _ _ _ h => h) (Or.inl ⟨z_1, ?_⟩) ?_ ?_
           rotate_left
           ·intro w'
            go_simp
            with_reducible rfl
           rotate_left
           ·simp only [Act.put, List.setIfInBounds_toArray, List.set_cons_zero, List.set_cons_succ, i64_w, i32_w]
            rfl
           refine pure_ (i := 14) (N := some 24) (v := ?_) (a' := ?_) #[T,T,T,T,T,T,T,T,T,T,T,T,T,T,T,F,F,F,F,F,F,F,F,F,F,F,F,F,F,F,F,F] rfl rfl (any_of HT_.out (z_0)) (fun _ _ _ h => h) (Or.inl ⟨z_1, ?_⟩) ?_ ?_
           rotate_left
           ·intro w'
            go_simp
            with_reducible rfl
           rotate_left
           ·simp only [Act.put, List.setIfInBounds_toArray, List.set_cons_zero, List.set_cons_succ, i64_w, i32_w]
            rfl
           refine pure_ (i := 15) (N := some 25) (v := ?_) (a' := ?_) #[T,T,T,T,T,T,T,T,T,T,T,T,T,T,T,T,F,F,F,F,F,F,F,F,F,F,F,F,F,F,F,F] rfl rfl (any_of HT_.out (z_0)) (fun _ _ _ h => h) (Or.inl ⟨z_1, ?_⟩) ?_ ?_
           rotate_left
           ·intro w'
            go_simp
            with_reducible rfl
           rotate_left
           ·simp only [Act.put, List.setIfInBounds_toArray, List.set_cons_zero, List.set_cons_succ, i64_w, i32_w]
            rfl
           refine pure_ (i := 16) (N := some 26) (v := ?_) (a' := ?_) #[T,T,T,T,T,T,T,T,T,T,T,T,T,T,T,T,T,F,F,F,F,F,F,F,F,F,F,F,F,F,F,F] rfl rfl (any_of HT_.out (z_0)) (fun _ _ _ h => h) (Or.inl ⟨z_1, ?_⟩) ?_ ?_
           rotate_left
           ·intro w'
            go_simp
            with_reducible rfl
           rotate_left
           ·simp only [Act.put, List.setIfInBounds_toArray, List.set_cons_zero, List.set_cons_succ, i64_w, i32_w]
            rfl
           refine pure_ (i := 17) (N := some 27) (v := ?_) (a' := ?_) #[T,T,T,T,T,T,T,T,T,T,T,T,T,T,T,T,T,T,F,F,F,F,F,F,F,F,F,F,F,F,F,F] rfl rfl (any_of HT_.out (z_0)) (fun _ _ _ h => h) (Or.inl ⟨z_1, ?_⟩) ?_ ?_
           rotate_left
           ·intro w'
            go_simp
            with_reducible rfl
           rotate_left
           ·simp only [Act.put, List.setIfInBounds_toArray, List.set_cons_zero, List.set_cons_succ, i64_w, i32_w]
            rfl
           refine pure_ (i := 18) (N := some 28) (v := ?_) (a' := ?_) #[T,T,T,T,T,T,T,T,T,T,T,T,T,T,T,T,T,T,T,F,F,F,F,F,F,F,F,F,F,F,F,F] rfl rfl (any_of HT_.out (z_0)) (fun _ _ _ h => h) (Or.inl ⟨z_1, ?_⟩) ?_ ?_
           rotate_left
           ·intro w'
            go_simp
            with_reducible rfl
           rotate_left
           ·simp only [Act.put, List.setIfInBounds_toArray, List.set_cons_zero, List.set_cons_succ, i64_w, i32_w]
            rfl
           refine pure_ (i := 19) (N := some 29) (v := ?_) (a' := ?_) #[T,T,T,T,T,T,T,T,T,T,T,T,T,T,T,T,T,T,T,T,F,F,F,F,F,F,F,F,F,F,F,F] rfl rfl (any_of HT_.out (z_0)) (fun _ _ _ h => h) (Or.inl ⟨z_1, ?_⟩) ?_ ?_
           rotate_left
           ·intro w'
            go_simp
            with_reducible rfl
           rotate_left
           ·simp only [Act.put, List.setIfInBounds_toArray, List.set_cons_zero, List.set_cons_succ, i64_w, i32_w]
            rfl
           refine pure_ (i := 20) (N := some 30) (v := ?_) (a' := ?_) #[T,T,T,T,T,T,T,T,T,T,T,T,T,T,T,T,T,T,T,T,T,F,F,F,F,F,F,F,F,F,F,F] rfl rfl (any_of HT_.out (z_0)) (fun _ _ _ h => h) (Or.inl ⟨z_1, ?_⟩) ?_ ?_
           rotate_left
           ·intro w'
            go_simp
            with_reducible rfl
           rotate_left
           ·simp only [Act.put, List.setIfInBounds_toArray, List.set_cons_zero, List.set_cons_succ, i64_w, i32_w]
            rfl
           refine pure_ (i := 21) (N := some 31) (v := ?_) (a' := ?_) #[T,T,T,T,T,T,T,T,T,T,T,T,T,T,T,T,T,T,T,T,T,T,F,F,F,F,F,F,F,F,F,F] rfl rfl (any_of HT_.out (z_0)) (fun _ _ _ h => h) (Or.inl ⟨z_1, ?_⟩) ?_ ?_
           rotate_left
           ·intro w'
            go_simp
            with_reducible rfl
           rotate_left
           ·simp only [Act.put, List.setIfInBounds_toArray, List.set_cons_zero, List.set_cons_succ, i64_w, i32_w]
            rfl
           refine pure_ (i := 22) (N := some 32) (v := ?_) (a' := ?_) #[T,T,T,T,T,T,T,T,T,T,T,T,T,T,T,T,T,T,T,T,T,T,T,F,F,F,F,F,F,F,F,F] rfl rfl (any_of HT_.out (z_0)) (fun _ _ _ h => h) (Or.inl ⟨z_1, ?_⟩) ?_ ?_
           rotate_left
           ·intro w'
            go_simp
            with_reducible rfl
           rotate_left
           ·simp only [Act.put, List.setIfInBounds_toArray, List.set_cons_zero, List.set_cons_succ, i64_w, i32_w]
            rfl
           refine pure_ (i := 24) (N := some 34) (v := ?_) (a' := ?_) #[T,T,T,T,T,T,T,T,T,T,T,T,T,T,T,T,T,T,T,T,T,T,T,F,T,F,F,F,F,F,F,F] rfl rfl (any_of HT_.out (z_0)) (fun _ _ _ h => h) (Or.inl ⟨z_1, ?_⟩) ?_ ?_
           rotate_left
           ·intro w'
            go_simp
            with_reducible rfl
           rotate_left
           ·simp only [Act.put, List.setIfInBounds_toArray, List.set_cons_zero, List.set_cons_succ, i64_w, i32_w]
            rfl
           refine pure_ (i := 25) (N := some 35) (v := ?_) (a' := ?_) #[T,T,T,T,T,T,T,T,T,T,T,T,T,T,T,T,T,T,T,T,T,T,T,F,T,T,F,F,F,F,F,F] rfl rfl (any_of HT_.out (z_0)) (fun _ _ _ h => h) (Or.inl ⟨z_1, ?_⟩) ?_ ?_
           rotate_left
           ·intro w'
            go_simp
            with_reducible rfl
           rotate_left
           ·simp only [Act.put, List.setIfInBounds_toArray, List.set_cons_zero, List.set_cons_succ, i64_w, i32_w]
            rfl
           refine pure_ (i := 26) (N := some 36) (v := ?_) (a' := ?_) #[T,T,T,T,T,T,T,T,T,T,T,T,T,T,T,T,T,T,T,T,T,T,T,F,T,T,T,F,F,F,F,F] rfl rfl (any_of HT_.out (z_0)) (fun _ _ _ h => h) (Or.inl ⟨z_1, ?_⟩) ?_ ?_
           rotate_left
           ·intro w'
            go_simp
            with_reducible rfl
           rotate_left
           ·simp only [Act.put, List.setIfInBounds_toArray, List.set_cons_zero, List.set_cons_succ, i64_w, i32_w]
            rfl
           refine pure_ (i := 27) (N := some 37) (v := ?_) (a' := ?_) #[T,T,T,T,T,T,T,T,T,T,T,T,T,T,T,T,T,T,T,T,T,T,T,F,T,T,T,T,F,F,F,F] rfl rfl (any_of HT_.out (z_0)) (fun _ _ _ h => h) (Or.inl ⟨z_1, ?_⟩) ?_ ?_
           rotate_left
           ·intro w'
            go_simp
            with_reducible rfl
           rotate_left
           ·simp only [Act.put, List.setIfInBounds_toArray, List.set_cons_zero, List.set_cons_succ, i64_w, i32_w]
            rfl
           refine take_ (i := 23) (N := some 33) (v := ?_) (a' := ?_) #[T,T,T,T,T,T,T,T,T,T,T,T,T,T,T,T,T,T,T,T,T,T,T,T,T,T,T,T,F,F,F,F] rfl rfl (take_ofW HT_.out HW_.out (z_0)) (fun _ _ _ h => h) (Or.inl ⟨z_1, ?_⟩) hHeld ?_ ?_
           rotate_left
           ·rintro w' ⟨s0, s1, s2, s3, s4, s5, s6, s7, s8, s9, s10, s11, s12, s13, s14, s15, s16, s17, s18, s19⟩
            go_simp
            with_reducible rfl
           rotate_left
           ·simp only [Act.put, List.setIfInBounds_toArray, List.set_cons_zero, List.set_cons_succ, i64_w, i32_w]
            rfl
           refine take_ (i := 28) (N := some 38) (v := ?_) (a' := ?_) #[T,T,T,T,T,T,T,T,T,T,T,T,T,T,T,T,T,T,T,T,T,T,T,T,T,T,T,T,T,F,F,F] rfl rfl (take_ofW HT_.out HW_.out (z_0)) (fun _ _ _ h => h) (Or.inl ⟨z_1, ?_⟩) hHeld ?_ ?_
           rotate_left
           ·rintro w' ⟨s0, s1, s2, s3, s4, s5, s6, s7, s8, s9, s10, s11, s12, s13, s14, s15, s16, s17, s18, s19⟩
            go_simp
            with_reducible rfl
           rotate_left
           ·simp only [Act.put, List.setIfInBounds_toArray, List.set_cons_zero, List.set_cons_succ, i64_w, i32_w]
            rfl
           refine pure_ (i := 29) (N := some 39) (v := ?_) (a' := ?_) #[T,T,T,T,T,T,T,T,T,T,T,T,T,T,T,T,T,T,T,T,T,T,T,T,T,T,T,T,T,T,F,F] rfl rfl (any_of HT_.out (z_0)) (fun _ _ _ h => h) (Or.inl ⟨z_1, ?_⟩) ?_ ?_
           rotate_left
           ·intro w'
            go_simp
            with_reducible rfl
           rotate_left
           ·simp only [Act.put, List.setIfInBounds_toArray, List.set_cons_zero, List.set_cons_succ, i64_w, i32_w]
            rfl
           refine pure_ (i := 30) (N := some 40) (v := ?_) (a' := ?_) #[T,T,T,T,T,T,T,T,T,T,T,T,T,T,T,T,T,T,T,T,T,T,T,T,T,T,T,T,T,T,T,F] rfl rfl (any_of HT_.out (z_0)) (fun _ _ _ h => h) (Or.inl ⟨z_1, ?_⟩) ?_ ?_
           rotate_left
           ·intro w'
            go_simp
            with_reducible rfl
           rotate_left
           ·simp only [Act.put, List.setIfInBounds_toArray, List.set_cons_zero, List.set_cons_succ, i64_w, i32_w]
            rfl
           refine pure_ (i := 31) (N := some 41) (v := ?_) (a' := ?_) #[T,T,T,T,T,T,T,T,T,T,T,T,T,T,T,T,T,T,T,T,T,T,T,T,T,T,T,T,T,T,T,T] rfl rfl (any_of HT_.out (z_0)) (fun _ _ _ h => h) (Or.inl ⟨z_1, ?_⟩) ?_ ?_
           rotate_left
           ·intro w'
            go_simp
            with_reducible rfl
           rotate_left
           ·simp only [Act.put, List.setIfInBounds_toArray, List.set_cons_zero, List.set_cons_succ, i64_w, i32_w]
            rfl
           refine done_ (done_of HT_.out (z_0)) ?_
           try go_wp2
           go_roundg k1
           case measure => have := HK1.out; omega
           case rel => exact ⟨(wrap64 (x3_1 + 1)), (z_3), H', ⟨z_10⟩, ⟨z_8⟩⟩
          ·rw [if_neg c13] at H
           have c13b0 : (Op.bytesLess (((rd_T26 l0 (ji10)).f0).toList) (((rd_T26 l0 x3_1).f0).toList)) = false := by simpa using c13
           clear c13
           obtain rfl := Option.some.inj H
           try go_wp2
           have n0_ := Aside0.mk (below_drew1 HB.out)
           clear HB
           have HB := n0_
           clear n0_
           have p234 : 0 ≤ (x3_1 : Int) := of_decide_eq_true (z_7)
           have q234 : x3_1 < (l0.length : Int) := of_decide_eq_true (z_7)
           obtain ⟨ad234, e234, hx234_0, hx234_1, hx234_2, hx234_3, hx234_4⟩ := at_T26 HR0.out x3_1 p234 q234
           have hw234_4 := hx234_4
           have hw234_3 := hx234_3
           have hw234_2 := hx234_2
           have hw234_1 := hx234_1
           have hw234_0 := hx234_0
           cases e234
           replace hx234_0 := pw_cell_below HB.out hx234_0
           replace hx234_1 := pw_cell_below HB.out hx234_1
           replace hx234_2 := pw_cell_below HB.out hx234_2
           replace hx234_3 := pw_cell_below HB.out hx234_3
           replace hx234_4 := pw_cell_below HB.out hx234_4
           replace p234 := eq_true p234
           replace q234 := eq_true q234
           have p236 : 0 ≤ (x3_1 : Int) := of_decide_eq_true (z_7)
           have q236 : x3_1 < (l0.length : Int) := of_decide_eq_true (z_7)
           obtain ⟨ad236, e236, hx236_0, hx236_1, hx236_2, hx236_3, hx236_4⟩ := at_T26 HR0.out x3_1 p236 q236
           have hw236_4 := hx236_4
           have hw236_3 := hx236_3
           have hw236_2 := hx236_2
           have hw236_1 := hx236_1
           have hw236_0 := hx236_0
           obtain rfl : ad234 = ad236 := (by injection e236)
           replace hx236_0 := pw_cell_below HB.out hx236_0
           replace hx236_1 := pw_cell_below HB.out hx236_1
           replace hx236_2 := pw_cell_below HB.out hx236_2
           replace hx236_3 := pw_cell_below HB.out hx236_3
           replace hx236_4 := pw_cell_below HB.out hx236_4
           replace p236 := eq_true p236
           replace q236 := eq_true q236
           have p237 : 0 ≤ ((ji10) : Int) := of_decide_eq_true (z_7)
           have q237 : (ji10) < (l0.length : Int) := of_decide_eq_true (z_7)
           obtain ⟨ad237, e237, hx237_0, hx237_1, hx237_2, hx237_3, hx237_4⟩ := at_T26 HR0.out (ji10) p237 q237
           have hw237_4 := hx237_4
           have hw237_3 := hx237_3
           have hw237_2 := hx237_2
           have hw237_1 := hx237_1
           have hw237_0 := hx237_0
           obtain rfl : ad234 = ad237 := (by injection e237)
           replace hx237_0 := pw_cell_below HB.out hx237_0
           replace hx237_1 := pw_cell_below HB.out hx237_1
           replace hx237_2 := pw_cell_below HB.out hx237_2
           replace hx237_3 := pw_cell_below HB.out hx237_3
           replace hx237_4 := pw_cell_below HB.out hx237_4
           replace p237 := eq_true p237
           replace q237 := eq_true q237
           have p238 : 0 ≤ (x3_1 : Int) := of_decide_eq_true (z_7)
           have q238 : x3_1 < (l0.length : Int) := of_decide_eq_true (z_7)
           obtain ⟨ad238, e238, hx238_0, hx238_1, hx238_2, hx238_3, hx238_4⟩ := at_T26 HR0.out x3_1 p238 q238
           have hw238_4 := hx238_4
           have hw238_3 := hx238_3
           have hw238_2 := hx238_2
           have hw238_1 := hx238_1
           have hw238_0 := hx238_0
           obtain rfl : ad234 = ad238 := (by injection e238)
           replace hx238_0 := pw_cell_below HB.out hx238_0
           replace hx238_1 := pw_cell_below HB.out hx238_1
           replace hx238_2 := pw_cell_below HB.out hx238_2
           replace hx238_3 := pw_cell_below HB.out hx238_3
           replace hx238_4 := pw_cell_below HB.out hx238_4
           replace p238 := eq_true p238
           replace q238 := eq_true q238
           refine start_ (n := 32) (S := fun w' => w'.cell? (ad234.add ((x3_1).toNat * 5)) = some (.string ((rd_T26 l0 x3_1).f0)) ∧ w'.cell? ⟨(ad234.add ((x3_1).toNat * 5)).block, (ad234.add ((x3_1).toNat * 5)).off + 1, none⟩ = some (.int .i64 ((rd_T26 l0 x3_1).f1)) ∧ w'.cell? ⟨(ad234.add ((x3_1).toNat * 5)).block, (ad234.add ((x3_1).toNat * 5)).off + 2, none⟩ = some (.int .i64 ((rd_T26 l0 x3_1).f2)) ∧ w'.cell? ⟨(ad234.add ((x3_1).toNat * 5)).block, (ad234.add ((x3_1).toNat * 5)).off + 3, none⟩ = some (.string ((rd_T26 l0 x3_1).f3)) ∧ w'.cell? ⟨(ad234.add ((x3_1).toNat * 5)).block, (ad234.add ((x3_1).toNat * 5)).off + 4, none⟩ = some (.int .i64 ((rd_T26 l0 x3_1).f4)) ∧ w'.cell? (ad234.add ((x3_1).toNat * 5)) = some (.string ((rd_T26 l0 x3_1).f0)) ∧ w'.cell? ⟨(ad234.add ((x3_1).toNat * 5)).block, (ad234.add ((x3_1).toNat * 5)).off + 1, none⟩ = some (.int .i64 ((rd_T26 l0 x3_1).f1)) ∧ w'.cell? ⟨(ad234.add ((x3_1).toNat * 5)).block, (ad234.add ((x3_1).toNat * 5)).off + 2, none⟩ = some (.int .i64 ((rd_T26 l0 x3_1).f2)) ∧ w'.cell? ⟨(ad234.add ((x3_1).toNat * 5)).block, (ad234.add ((x3_1).toNat * 5)).off + 3, none⟩ = some (.string ((rd_T26 l0 x3_1).f3)) ∧ w'.cell? ⟨(ad234.add ((x3_1).toNat * 5)).block, (ad234.add ((x3_1).toNat * 5)).off + 4, none⟩ = some (.int .i64 ((rd_T26 l0 x3_1).f4)) ∧ w'.cell? (ad234.add (((ji10)).toNat * 5)) = some (.string ((rd_T26 l0 (ji10)).f0)) ∧ w'.cell? ⟨(ad234.add (((ji10)).toNat * 5)).block, (ad234.add (((ji10)).toNat * 5)).off + 1, none⟩ = some (.int .i64 ((rd_T26 l0 (ji10)).f1)) ∧ w'.cell? ⟨(ad234.add (((ji10)).toNat * 5)).block, (ad234.add (((ji10)).toNat * 5)).off + 2, none⟩ = some (.int .i64 ((rd_T26 l0 (ji10)).f2)) ∧ w'.cell? ⟨(ad234.add (((ji10)).toNat * 5)).block, (ad234.add (((ji10)).toNat * 5)).off + 3, none⟩ = some (.string ((rd_T26 l0 (ji10)).f3)) ∧ w'.cell? ⟨(ad234.add (((ji10)).toNat * 5)).block, (ad234.add (((ji10)).toNat * 5)).off + 4, none⟩ = some (.int .i64 ((rd_T26 l0 (ji10)).f4)) ∧ w'.cell? (ad234.add ((x3_1).toNat * 5)) = some (.string ((rd_T26 l0 x3_1).f0)) ∧ w'.cell? ⟨(ad234.add ((x3_1).toNat * 5)).block, (ad234.add ((x3_1).toNat * 5)).off + 1, none⟩ = some (.int .i64 ((rd_T26 l0 x3_1).f1)) ∧ w'.cell? ⟨(ad234.add ((x3_1).toNat * 5)).block, (ad234.add ((x3_1).toNat * 5)).off + 2, none⟩ = some (.int .i64 ((rd_T26 l0 x3_1).f2)) ∧ w'.cell? ⟨(ad234.add ((x3_1).toNat * 5)).block, (ad234.add ((x3_1).toNat * 5)).off + 3, none⟩ = some (.string ((rd_T26 l0 x3_1).f3)) ∧ w'.cell? ⟨(ad234.add ((x3_1).toNat * 5)).block, (ad234.add ((x3_1).toNat * 5)).off + 4, none⟩ = some (.int .i64 ((rd_T26 l0 x3_1).f4))) (ds := []) #[F,F,F,F,F,F,F,F,F,F,F,F,F,F,F,F,F,F,F,F,F,F,F,F,F,F,F,F,F,F,F,F] (z_0) rfl rfl ⟨(pw_cell_below HB.out hw234_0), (pw_cell_below HB.out hw234_1), (pw_cell_below HB.out hw234_2), (pw_cell_below HB.out hw234_3), (pw_cell_below HB.out hw234_4), (pw_cell_below HB.out hw236_0), (pw_cell_below HB.out hw236_1), (pw_cell_below HB.out hw236_2), (pw_cell_below HB.out hw236_3), (pw_cell_below HB.out hw236_4), (pw_cell_below HB.out hw237_0), (pw_cell_below HB.out hw237_1), (pw_cell_below HB.out hw237_2), (pw_cell_below HB.out hw237_3), (pw_cell_below HB.out hw237_4), (pw_cell_below HB.out hw238_0), (pw_cell_below HB.out hw238_1), (pw_cell_below HB.out hw238_2), (pw_cell_below HB.out hw238_3), (pw_cell_below HB.out hw238_4)⟩ (fun hHeld => ?_); refine with_tabW spec_NamesOk.tab4 spec_NamesOk.bits4 (fun HT_ HW_ => ?_)
           generalize wr.drew = w16 at HB hx234_0 hx234_1 hx234_2 hx234_3 hx234_4 hx236_0 hx236_1 hx236_2 hx236_3 hx236_4 hx237_0 hx237_1 hx237_2 hx237_3 hx237_4 hx238_0 hx238_1 hx238_2 hx238_3 hx238_4 hHeld ⊢
           refine pure_ (i := 0) (N := some 10) (v := ?_) (a' := ?_) #[T,F,F,F,F,F,F,F,F,F,F,F,F,F,F,F,F,F,F,F,F,F,F,F,F,F,F,F,F,F,F,F] rfl rfl (any_of HT_.out (z_0)) (fun _ _ _ h => h) (Or.inl ⟨z_1, ?_⟩) ?_ ?_
           rotate_left
           ·intro w'
            go_simp
            with_reducible rfl
           rotate_left
           ·simp only [Act.put, List.setIfInBounds_toArray, List.set_cons_zero, List.set_cons_succ, i64_w, i32_w]
            rfl
           refine pure_ (i := 1) (N := some 11) (v := ?_) (a' := ?_) #[T,T,F,F,F,F,F,F,F,F,F,F,F,F,F,F,F,F,F,F,F,F,F,F,F,F,F,F,F,F,F,F] rfl rfl (any_of HT_.out (z_0)) (fun _ _ _ h => h) (Or.inl ⟨z_1, ?_⟩) ?_ ?_
           rotate_left
           ·intro w'
            go_simp
            with_reducible rfl
           rotate_left
           ·simp only [Act.put, List.setIfInBounds_toArray, List.set_cons_zero, List.set_cons_succ, i64_w, i32_w]
            rfl
           refine pure_ (i := 2) (N := some 12) (v := ?_) (a' := ?_) #[T,T,T,F,F,F,F,F,F,F,F,F,F,F,F,F,F,F,F,F,F,F,F,F,F,F,F,F,F,F,F,F] rfl rfl (any_of HT_.out (z_0)) (fun _ _ _ h => h) (Or.inl ⟨z_1, ?_⟩) ?_ ?_
           rotate_left
           ·intro w'
            go_simp
            with_reducible rfl
           rotate_left
           ·simp only [Act.put, List.setIfInBounds_toArray, List.set_cons_zero, List.set_cons_succ, i64_w, i32_w]
            rfl
           refine take_ (i := 3) (N := some 13) (v := ?_) (a' := ?_) #[T,T,T,T,F,F,F,F,F,F,F,F,F,F,F,F,F,F,F,F,F,F,F,F,F,F,F,F,F,F,F,F] rfl rfl (take_ofW HT_.out HW_.out (z_0)) (fun _ _ _ h => h) (Or.inl ⟨z_1, ?_⟩) hHeld ?_ ?_
           rotate_left
           ·rintro w' ⟨s0, s1, s2, s3, s4, s5, s6, s7, s8, s9, s10, s11, s12, s13, s14, s15, s16, s17, s18, s19⟩
            go_simp
            with_reducible rfl
           rotate_left
           ·simp only [Act.put, List.setIfInBounds_toArray, List.set_cons_zero, List.set_cons_succ, i64_w, i32_w]
            rfl
           refine one_ (i := 4) (N := some 14) #[T,T,T,T,T,F,F,F,F,F,F,F,F,F,F,F,F,F,F,F,F,F,F,F,F,F,F,F,F,F,F,F] rfl rfl (one_of HT_.out (z_0)) (z_5) (fun K hK => ?_)
           refine goes_ Try.func19 (z_0) rfl #[.agg #[.string ((rd_T26 l0 x3_1).f0), .int .i64 ((rd_T26 l0 x3_1).f1), .int .i64 ((rd_T26 l0 x3_1).f2), .string ((rd_T26 l0 x3_1).f3), .int .i64 ((rd_T26 l0 x3_1).f4)]] (z_1) rfl rfl (z_14) ?_
           with_reducible refine (spec_NameOk.calls k1 ((rd_T26 l0 x3_1).f0) ((rd_T26 l0 x3_1).f1) ((rd_T26 l0 x3_1).f2) ((rd_T26 l0 x3_1).f3) ((rd_T26 l0 x3_1).f4) true _ A4.out).mono ?_
           rintro e w17 ⟨rfl, hb⟩
           refine ⟨_, rfl, ?_⟩
           have n0_ := Aside0.mk (below_step (z_8) hb)
           clear HB
           have HB := n0_
           clear n0_
           (try clear hb)
           (try clear hb2)
           (try clear hk)
           (try clear hi)
           refine hK.out _ _ ⟨(pw_cell_below HB.out hw234_0), (pw_cell_below HB.out hw234_1), (pw_cell_below HB.out hw234_2), (pw_cell_below HB.out hw234_3), (pw_cell_below HB.out hw234_4), (pw_cell_below HB.out hw236_0), (pw_cell_below HB.out hw236_1), (pw_cell_below HB.out hw236_2), (pw_cell_below HB.out hw236_3), (pw_cell_below HB.out hw236_4), (pw_cell_below HB.out hw237_0), (pw_cell_below HB.out hw237_1), (pw_cell_below HB.out hw237_2), (pw_cell_below HB.out hw237_3), (pw_cell_below HB.out hw237_4), (pw_cell_below HB.out hw238_0), (pw_cell_below HB.out hw238_1), (pw_cell_below HB.out hw238_2), (pw_cell_below HB.out hw238_3), (pw_cell_below HB.out hw238_4)⟩ (fun hHeld => ?_)
           clear hK K
           refine norm_ (a' := ?_) ?_ ?_
           rotate_left
           ·show Act.put _ (some 14) _ = _
            simp only [Act.put, List.setIfInBounds_toArray, List.set_cons_zero, List.set_cons_succ, i64_w, i32_w]
            rfl
           refine pure_ (i := 5) (N := some 15) (v := ?_) (a' := ?_) #[T,T,T,T,T,T,F,F,F,F,F,F,F,F,F,F,F,F,F,F,F,F,F,F,F,F,F,F,F,F,F,F] rfl rfl (any_of HT_.out (z_0)) (fun _ _ _ h => h) (Or.inl ⟨z_1, ?_⟩) ?_ ?_
           rotate_left
           ·intro w'
            go_simp
            with_reducible rfl
           rotate_left
           ·simp only [Act.put, List.setIfInBounds_toArray, List.set_cons_zero, List.set_cons_succ, i64_w, i32_w]
            rfl
           refine pure_ (i := 6) (N := some 16) (v := ?_) (a' := ?_) #[T,T,T,T,T,T,T,F,F,F,F,F,F,F,F,F,F,F,F,F,F,F,F,F,F,F,F,F,F,F,F,F] rfl rfl (any_of HT_.out (z_0)) (fun _ _ _ h => h) (Or.inl ⟨z_1, ?_⟩) ?_ ?_
           rotate_left
           ·intro w'
            go_simp
            with_reducible rfl
           rotate_left
           ·simp only [Act.put, List.setIfInBounds_toArray, List.set_cons_zero, List.set_cons_succ, i64_w, i32_w]
            rfl
           refine pure_ (i := 7) (N := some 17) (v := ?_) (a' := ?_) #[T,T,T,T,T,T,T,T,F,F,F,F,F,F,F,F,F,F,F,F,F,F,F,F,F,F,F,F,F,F,F,F] rfl rfl (any_of HT_.out (z_0)) (fun _ _ _ h => h) (Or.inl ⟨z_1, ?_⟩) ?_ ?_
           rotate_left
           ·intro w'
            go_simp
            with_reducible rfl
           rotate_left
           ·simp only [Act.put, List.setIfInBounds_toArray, List.set_cons_zero, List.set_cons_succ, i64_w, i32_w]
            rfl
           refine pure_ (i := 8) (N := some 18) (v := ?_) (a' := ?_) #[T,T,T,T,T,T,T,T,T,F,F,F,F,F,F,F,F,F,F,F,F,F,F,F,F,F,F,F,F,F,F,F] rfl rfl (any_of HT_.out (z_0)) (fun _ _ _ h => h) (Or.inl ⟨z_1, ?_⟩) ?_ ?_
           rotate_left
           ·intro w'
            go_simp
            with_reducible rfl
           rotate_left
           ·simp only [Act.put, List.setIfInBounds_toArray, List.set_cons_zero, List.set_cons_succ, i64_w, i32_w]
            rfl
           refine pure_ (i := 9) (N := some 19) (v := ?_) (a' := ?_) #[T,T,T,T,T,T,T,T,T,T,F,F,F,F,F,F,F,F,F,F,F,F,F,F,F,F,F,F,F,F,F,F] rfl rfl (any_of HT_.out (z_0)) (fun _ _ _ h => h) (Or.inl ⟨z_1, ?_⟩) ?_ ?_
           rotate_left
           ·intro w'
            go_simp
            with_reducible rfl
           rotate_left
           ·simp only [Act.put, List.setIfInBounds_toArray, List.set_cons_zero, List.set_cons_succ, i64_w, i32_w]
            rfl
           refine pure_ (i := 10) (N := some 20) (v := ?_) (a' := ?_) #[T,T,T,T,T,T,T,T,T,T,T,F,F,F,F,F,F,F,F,F,F,F,F,F,F,F,F,F,F,F,F,F] rfl rfl (any_of HT_.out (z_0)) (fun _ _ _ h => h) (Or.inl ⟨z_1, ?_⟩) ?_ ?_
           rotate_left
           ·intro w'
            go_simp
            with_reducible rfl
           rotate_left
           ·simp only [Act.put, List.setIfInBounds_toArray, List.set_cons_zero, List.set_cons_succ, i64_w, i32_w]
            rfl
           refine take_ (i := 11) (N := some 21) (v := ?_) (a' := ?_) #[T,T,T,T,T,T,T,T,T,T,T,T,F,F,F,F,F,F,F,F,F,F,F,F,F,F,F,F,F,F,F,F] rfl rfl (take_ofW HT_.out HW_.out (z_0)) (fun _ _ _ h => h) (Or.inl ⟨z_1, ?_⟩) hHeld ?_ ?_
           rotate_left
           ·rintro w' ⟨s0, s1, s2, s3, s4, s5, s6, s7, s8, s9, s10, s11, s12, s13, s14, s15, s16, s17, s18, s19⟩
            go_simp
            with_reducible rfl
           rotate_left
           ·simp only [Act.put, List.setIfInBounds_toArray, List.set_cons_zero, List.set_cons_succ, i64_w, i32_w]
            rfl
           refine pure_ (i := 12) (N := some 22) (v := ?_) (a' := ?_) #[T,T,T,T,T,T,T,T,T,T,T,T,T,F,F,F,F,F,F,F,F,F,F,F,F,F,F,F,F,F,F,F] rfl rfl (any_of HT_.out (z_0)) (fun _ _ _ h => h) (Or.inl ⟨z_1, ?_⟩) ?_ ?_
           rotate_left
           ·intro w'
            go_simp
            with_reducible rfl
           rotate_left
           ·simp only [Act.put, List.setIfInBounds_toArray, List.set_cons_zero, List.set_cons_succ, i64_w, i32_w]
            rfl
           refine pure_ (i := 13) (N := some 23) (v := ?_) (a' := ?_) #[T,T,T,T,T,T,T,T,T,T,T,T,T,T,F,F,F,F,F,F,F,F,F,F,F,F,F,F,F,F,F,F] rfl rfl (any_of HT_.out (z_0)) (fun _ _ _ h => h) (Or.inl ⟨z_1, ?_⟩) ?_ ?_
           rotate_left
           ·intro w'
            go_simp
            with_reducible rfl
           rotate_left
           ·simp only [Act.put, List.setIfInBounds_toArray, List.set_cons_zero, List.set_cons_succ, i64_w, i32_w]
            rfl
           refine pure_ (i := 14) (N := some 24) (v := ?_) (a' := ?_) #[T,T,T,T,T,T,T,T,T,T,T,T,T,T,T,F,F,F,F,F,F,F,F,F,F,F,F,F,F,F,F,F] rfl rfl (any_of HT_.out (z_0)) (fun _ _ _ h => h) (Or.inl ⟨z_1, ?_⟩) ?_ ?_
           rotate_left
           ·intro w'
            go_simp
            with_reducible rfl
           rotate_left
           ·simp only [Act.put, List.setIfInBounds_toArray, List.set_cons_zero, List.set_cons_succ, i64_w, i32_w]
            rfl
           refine pure_ (i := 15) (N := some 25) (v := ?_) (a' := ?_) #[T,T,T,T,T,T,T,T,T,T,T,T,T,T,T,T,F,F,F,F,F,F,F,F,F,F,F,F,F,F,F,F] rfl rfl (any_of HT_.out (z_0)) (fun _ _ _ h => h) (Or.inl ⟨z_1, ?_⟩) ?_ ?_
           rotate_left
           ·intro w'
            go_simp
            with_reducible rfl
           rotate_left
           ·simp only [Act.put, List.setIfInBounds_toArray, List.set_cons_zero, List.set_cons_succ, i64_w, i32_w]
            rfl
           refine pure_ (i := 16) (N := some 26) (v := ?_) (a' := ?_) #[T,T,T,T,T,T,T,T,T,T,T,T,T,T,T,T,T,F,F,F,F,F,F,F,F,F,F,F,F,F,F,F] rfl rfl (any_of HT_.out (z_0)) (fun _ _ _ h => h) (Or.inl ⟨z_1, ?_⟩) ?_ ?_
           rotate_left
           ·intro w'
            go_simp
            with_reducible rfl
           rotate_left
           ·simp only [Act.put, List.setIfInBounds_toArray, List.set_cons_zero, List.set_cons_succ, i64_w, i32_w]
            rfl
           refine pure_ (i := 17) (N := some 27) (v := ?_) (a' := ?_) #[T,T,T,T,T,T,T,T,T,T,T,T,T,T,T,T,T,T,F,F,F,F,F,F,F,F,F,F,F,F,F,F] rfl rfl (any_of HT_.out (z_0)) (fun _ _ _ h => h) (Or.inl ⟨z_1, ?_⟩) ?_ ?_
           rotate_left
           ·intro w'
            go_simp
            with_reducible rfl
           rotate_left
           ·simp only [Act.put, List.setIfInBounds_toArray, List.set_cons_zero, List.set_cons_succ, i64_w, i32_w]
            rfl
           refine pure_ (i := 18) (N := some 28) (v := ?_) (a' := ?_) #[T,T,T,T,T,T,T,T,T,T,T,T,T,T,T,T,T,T,T,F,F,F,F,F,F,F,F,F,F,F,F,F] rfl rfl (any_of HT_.out (z_0)) (fun _ _ _ h => h) (Or.inl ⟨z_1, ?_⟩) ?_ ?_
           rotate_left
           ·intro w'
            go_simp
            with_reducible rfl
           rotate_left
           ·simp only [Act.put, List.setIfInBounds_toArray, List.set_cons_zero, List.set_cons_succ, i64_w, i32_w]
            rfl
           refine pure_ (i := 19) (N := some 29) (v := ?_) (a' := ?_) #[T,T,T,T,T,T,T,T,T,T,T,T,T,T,T,T,T,T,T,T,F,F,F,F,F,F,F,F,F,F,F,F] rfl rfl (any_of HT_.out (z_0)) (fun _ _ _ h => h) (Or.inl ⟨z_1, ?_⟩) ?_ ?_
           rotate_left
           ·intro w'
            go_simp
            with_reducible rfl
           rotate_left
           ·simp only [Act.put, List.setIfInBounds_toArray, List.set_cons_zero, List.set_cons_succ, i64_w, i32_w]
            rfl
           refine pure_ (i := 20) (N := some 30) (v := ?_) (a' := ?_) #[T,T,T,T,T,T,T,T,T,T,T,T,T,T,T,T,T,T,T,T,T,F,F,F,F,F,F,F,F,F,F,F] rfl rfl (any_of HT_.out (z_0)) (fun _ _ _ h => h) (Or.inl ⟨z_1, ?_⟩) ?_ ?_
           rotate_left
           ·intro w'
            go_simp
            with_reducible rfl
           rotate_left
           ·simp only [Act.put, List.setIfInBounds_toArray, List.set_cons_zero, List.set_cons_succ, i64_w, i32_w]
            rfl
           refine pure_ (i := 21) (N := some 31) (v := ?_) (a' := ?_) #[T,T,T,T,T,T,T,T,T,T,T,T,T,T,T,T,T,T,T,T,T,T,F,F,F,F,F,F,F,F,F,F] rfl rfl (any_of HT_.out (z_0)) (fun _ _ _ h => h) (Or.inl ⟨z_1, ?_⟩) ?_ ?_
           rotate_left
           ·intro w'
            go_simp
            with_reducible rfl
           rotate_left
           ·simp only [Act.put, List.setIfInBounds_toArray, List.set_cons_zero, List.set_cons_succ, i64_w, i32_w]
            rfl
           refine pure_ (i := 22) (N := some 32) (v := ?_) (a' := ?_) #[T,T,T,T,T,T,T,T,T,T,T,T,T,T,T,T,T,T,T,T,T,T,T,F,F,F,F,F,F,F,F,F] rfl rfl (any_of HT_.out (z_0)) (fun _ _ _ h => h) (Or.inl ⟨z_1, ?_⟩) ?_ ?_
           rotate_left
           ·intro w'
            go_simp
            with_reducible rfl
           rotate_left
           ·simp only [Act.put, List.setIfInBounds_toArray, List.set_cons_zero, List.set_cons_succ, i64_w, i32_w]
            rfl
           refine pure_ (i := 24) (N := some 34) (v := ?_) (a' := ?_) #[T,T,T,T,T,T,T,T,T,T,T,T,T,T,T,T,T,T,T,T,T,T,T,F,T,F,F,F,F,F,F,F] rfl rfl (any_of HT_.out (z_0)) (fun _ _ _ h => h) (Or.inl ⟨z_1, ?_⟩) ?_ ?_
           rotate_left
           ·intro w'
            go_simp
            with_reducible rfl
           rotate_left
           ·simp only [Act.put, List.setIfInBounds_toArray, List.set_cons_zero, List.set_cons_succ, i64_w, i32_w]
            rfl
           refine pure_ (i := 25) (N := some 35) (v := ?_) (a' := ?_) #[T,T,T,T,T,T,T,T,T,T,T,T,T,T,T,T,T,T,T,T,T,T,T,F,T,T,F,F,F,F,F,F] rfl rfl (any_of HT_.out (z_0)) (fun _ _ _ h => h) (Or.inl ⟨z_1, ?_⟩) ?_ ?_
           rotate_left
           ·intro w'
            go_simp
            with_reducible rfl
           rotate_left
           ·simp only [Act.put, List.setIfInBounds_toArray, List.set_cons_zero, List.set_cons_succ, i64_w, i32_w]
            rfl
           refine pure_ (i := 26) (N := some 36) (v := ?_) (a' := ?_) #[T,T,T,T,T,T,T,T,T,T,T,T,T,T,T,T,T,T,T,T,T,T,T,F,T,T,T,F,F,F,F,F] rfl rfl (any_of HT_.out (z_0)) (fun _ _ _ h => h) (Or.inl ⟨z_1, ?_⟩) ?_ ?_
           rotate_left
           ·intro w'
            go_simp
            with_reducible rfl
           rotate_left
           ·simp only [Act.put, List.setIfInBounds_toArray, List.set_cons_zero, List.set_cons_succ, i64_w, i32_w]
            rfl
           refine pure_ (i := 27) (N := some 37) (v := ?_) (a' := ?_) #[T,T,T,T,T,T,T,T,T,T,T,T,T,T,T,T,T,T,T,T,T,T,T,F,T,T,T,T,F,F,F,F] rfl rfl (any_of HT_.out (z_0)) (fun _ _ _ h => h) (Or.inl ⟨z_1, ?_⟩) ?_ ?_
           rotate_left
           ·intro w'
            go_simp
            with_reducible rfl
           rotate_left
           ·simp only [Act.put, List.setIfInBounds_toArray, List.set_cons_zero, List.set_cons_succ, i64_w, i32_w]
            rfl
           refine take_ (i := 23) (N := some 33) (v := ?_) (a' := ?_) #[T,T,T,T,T,T,T,T,T,T,T,T,T,T,T,T,T,T,T,T,T,T,T,T,T,T,T,T,F,F,F,F] rfl rfl (take_ofW HT_.out HW_.out (z_0)) (fun _ _ _ h => h) (Or.inl ⟨z_1, ?_⟩) hHeld ?_ ?_
           rotate_left
           ·rintro w' ⟨s0, s1, s2, s3, s4, s5, s6, s7, s8, s9, s10, s11, s12, s13, s14, s15, s16, s17, s18, s19⟩
            go_simp
            with_reducible rfl
           rotate_left
           ·simp only [Act.put, List.setIfInBounds_toArray, List.set_cons_zero, List.set_cons_succ, i64_w, i32_w]
            rfl
           refine take_ (i := 28) (N := some 38) (v := ?_) (a' := ?_) #[T,T,T,T,T,T,T,T,T,T,T,T,T,T,T,T,T,T,T,T,T,T,T,T,T,T,T,T,T,F,F,F] rfl rfl (take_ofW HT_.out HW_.out (z_0)) (fun _ _ _ h => h) (Or.inl ⟨z_1, ?_⟩) hHeld ?_ ?_
           rotate_left
           ·rintro w' ⟨s0, s1, s2, s3, s4, s5, s6, s7, s8, s9, s10, s11, s12, s13, s14, s15, s16, s17, s18, s19⟩
            go_simp
            with_reducible rfl
           rotate_left
           ·simp only [Act.put, List.setIfInBounds_toArray, List.set_cons_zero, List.set_cons_succ, i64_w, i32_w]
            rfl
           refine pure_ (i := 29) (N := some 39) (v := ?_) (a' := ?_) #[T,T,T,T,T,T,T,T,T,T,T,T,T,T,T,T,T,T,T,T,T,T,T,T,T,T,T,T,T,T,F,F] rfl rfl (any_of HT_.out (z_0)) (fun _ _ _ h => h) (Or.inl ⟨z_1, ?_⟩) ?_ ?_
           rotate_left
           ·intro w'
            go_simp
            with_reducible rfl
           rotate_left
           ·simp only [Act.put, List.setIfInBounds_toArray, List.set_cons_zero, List.set_cons_succ, i64_w, i32_w]
            rfl
           refine pure_ (i := 30) (N := some 40) (v := ?_) (a' := ?_) #[T,T,T,T,T,T,T,T,T,T,T,T,T,T,T,T,T,T,T,T,T,T,T,T,T,T,T,T,T,T,T,F] rfl rfl (any_of HT_.out (z_0)) (fun _ _ _ h => h) (Or.inl ⟨z_1, ?_⟩) ?_ ?_
           rotate_left
           ·intro w'
            go_simp
            with_reducible rfl
           rotate_left
           ·simp only [Act.put, List.setIfInBounds_toArray, List.set_cons_zero, List.set_cons_succ, i64_w, i32_w]
            rfl
           refine pure_ (i := 31) (N := some 41) (v := ?_) (a' := ?_) #[T,T,T,T,T,T,T,T,T,T,T,T,T,T,T,T,T,T,T,T,T,T,T,T,T,T,T,T,T,T,T,T] rfl rfl (any_of HT_.out (z_0)) (fun _ _ _ h => h) (Or.inl ⟨z_1, ?_⟩) ?_ ?_
           rotate_left
           ·intro w'
            go_simp
            with_reducible rfl
           rotate_left
           ·simp only [Act.put, List.setIfInBounds_toArray, List.set_cons_zero, List.set_cons_succ, i64_w, i32_w]
            rfl
           refine done_ (done_of HT_.out (z_0)) ?_
           try go_wp2
           go_ret
           exact ⟨by first | rfl | (simp [errW_none, errW_some] <;> rfl) | (simp only [← hji10]; first | rfl | (simp [errW_none, errW_some] <;> rfl)) | (simp [*, errW_none, errW_some] <;> rfl), z_8⟩
         ·rw [if_neg c12] at H
          exact absurd H (z_12)
        ·rw [if_neg c11] at H
         exact absurd H (z_12)
       ·rw [if_neg c9] at H
        have c9b0 : decide (0 < x3_1) = false := decide_eq_false c9
        clear c9
        have H' := Aside0.mk H
        clear H
        try go_wp2
        have n0_ := Aside0.mk (below_drew1 HB.out)
        clear HB
        have HB := n0_
        clear n0_
        have p234 : 0 ≤ (x3_1 : Int) := of_decide_eq_true (z_7)
        have q234 : x3_1 < (l0.length : Int) := of_decide_eq_true (z_7)
        obtain ⟨ad234, e234, hx234_0, hx234_1, hx234_2, hx234_3, hx234_4⟩ := at_T26 HR0.out x3_1 p234 q234
        have hw234_4 := hx234_4
        have hw234_3 := hx234_3
        have hw234_2 := hx234_2
        have hw234_1 := hx234_1
        have hw234_0 := hx234_0
        cases e234
        replace hx234_0 := pw_cell_below HB.out hx234_0
        replace hx234_1 := pw_cell_below HB.out hx234_1
        replace hx234_2 := pw_cell_below HB.out hx234_2
        replace hx234_3 := pw_cell_below HB.out hx234_3
        replace hx234_4 := pw_cell_below HB.out hx234_4
        replace p234 := eq_true p234
        replace q234 := eq_true q234
        have p236 : 0 ≤ (x3_1 : Int) := of_decide_eq_true (z_7)
        have q236 : x3_1 < (l0.length : Int) := of_decide_eq_true (z_7)
        obtain ⟨ad236, e236, hx236_0, hx236_1, hx236_2, hx236_3, hx236_4⟩ := at_T26 HR0.out x3_1 p236 q236
        have hw236_4 := hx236_4
        have hw236_3 := hx236_3
        have hw236_2 := hx236_2
        have hw236_1 := hx236_1
        have hw236_0 := hx236_0
        obtain rfl : ad234 = ad236 := (by injection e236)
        replace hx236_0 := pw_cell_below HB.out hx236_0
        replace hx236_1 := pw_cell_below HB.out hx236_1
        replace hx236_2 := pw_cell_below HB.out hx236_2
        replace hx236_3 := pw_cell_below HB.out hx236_3
        replace hx236_4 := pw_cell_below HB.out hx236_4
        replace p236 := eq_true p236
        replace q236 := eq_true q236
        refine start_ (n := 32) (S := fun w' => w'.cell? (ad234.add ((x3_1).toNat * 5)) = some (.string ((rd_T26 l0 x3_1).f0)) ∧ w'.cell? ⟨(ad234.add ((x3_1).toNat * 5)).block, (ad234.add ((x3_1).toNat * 5)).off + 1, none⟩ = some (.int .i64 ((rd_T26 l0 x3_1).f1)) ∧ w'.cell? ⟨(ad234.add ((x3_1).toNat * 5)).block, (ad234.add ((x3_1).toNat * 5)).off + 2, none⟩ = some (.int .i64 ((rd_T26 l0 x3_1).f2)) ∧ w'.cell? ⟨(ad234.add ((x3_1).toNat * 5)).block, (ad234.add ((x3_1).toNat * 5)).off + 3, none⟩ = some (.string ((rd_T26 l0 x3_1).f3)) ∧ w'.cell? ⟨(ad234.add ((x3_1).toNat * 5)).block, (ad234.add ((x3_1).toNat * 5)).off + 4, none⟩ = some (.int .i64 ((rd_T26 l0 x3_1).f4)) ∧ w'.cell? (ad234.add ((x3_1).toNat * 5)) = some (.string ((rd_T26 l0 x3_1).f0)) ∧ w'.cell? ⟨(ad234.add ((x3_1).toNat * 5)).block, (ad234.add ((x3_1).toNat * 5)).off + 1, none⟩ = some (.int .i64 ((rd_T26 l0 x3_1).f1)) ∧ w'.cell? ⟨(ad234.add ((x3_1).toNat * 5)).block, (ad234.add ((x3_1).toNat * 5)).off + 2, none⟩ = some (.int .i64 ((rd_T26 l0 x3_1).f2)) ∧ w'.cell? ⟨(ad234.add ((x3_1).toNat * 5)).block, (ad234.add ((x3_1).toNat * 5)).off + 3, none⟩ = some (.string ((rd_T26 l0 x3_1).f3)) ∧ w'.cell? ⟨(ad234.add ((x3_1).toNat * 5)).block, (ad234.add ((x3_1).toNat * 5)).off + 4, none⟩ = some (.int .i64 ((rd_T26 l0 x3_1).f4))) (ds := []) #[F,F,F,F,F,F,F,F,F,F,F,F,F,F,F,F,F,F,F,F,F,F,F,F,F,F,F,F,F,F,F,F] (z_0) rfl rfl ⟨(pw_cell_below HB.out hw234_0), (pw_cell_below HB.out hw234_1), (pw_cell_below HB.out hw234_2), (pw_cell_below HB.out hw234_3), (pw_cell_below HB.out hw234_4), (pw_cell_below HB.out hw236_0), (pw_cell_below HB.out hw236_1), (pw_cell_below HB.out hw236_2), (pw_cell_below HB.out hw236_3), (pw_cell_below HB.out hw236_4)⟩ (fun hHeld => ?_); refine with_tabW spec_NamesOk.tab4 spec_NamesOk.bits4 (fun HT_ HW_ => ?_)
        generalize wr.drew = w18 at HB hx234_0 hx234_1 hx234_2 hx234_3 hx234_4 hx236_0 hx236_1 hx236_2 hx236_3 hx236_4 hHeld ⊢
        refine pure_ (i := 0) (N := some 10) (v := ?_) (a' := ?_) #[T,F,F,F,F,F,F,F,F,F,F,F,F,F,F,F,F,F,F,F,F,F,F,F,F,F,F,F,F,F,F,F] rfl rfl (any_of HT_.out (z_0)) (fun _ _ _ h => h) (Or.inl ⟨z_1, ?_⟩) ?_ ?_
        rotate_left
        ·intro w'
         go_simp
         with_reducible rfl
        rotate_left
        ·simp only [Act.put, List.setIfInBounds_toArray, List.set_cons_zero, List.set_cons_succ, i64_w, i32_w]
         rfl
        refine pure_ (i := 1) (N := some 11) (v := ?_) (a' := ?_) #[T,T,F,F,F,F,F,F,F,F,F,F,F,F,F,F,F,F,F,F,F,F,F,F,F,F,F,F,F,F,F,F] rfl rfl (any_of HT_.out (z_0)) (fun _ _ _ h => h) (Or.inl ⟨z_1, ?_⟩) ?_ ?_
        rotate_left
        ·intro w'
         go_simp
         with_reducible rfl
        rotate_left
        ·simp only [Act.put, List.setIfInBounds_toArray, List.set_cons_zero, List.set_cons_succ, i64_w, i32_w]
         rfl
        refine pure_ (i := 2) (N := some 12) (v := ?_) (a' := ?_) #[T,T,T,F,F,F,F,F,F,F,F,F,F,F,F,F,F,F,F,F,F,F,F,F,F,F,F,F,F,F,F,F] rfl rfl (any_of HT_.out (z_0)) (fun _ _ _ h => h) (Or.inl ⟨z_1, ?_⟩) ?_ ?_
        rotate_left
        ·intro w'
         go_simp
         with_reducible rfl
        rotate_left
        ·simp only [Act.put, List.setIfInBounds_toArray, List.set_cons_zero, List.set_cons_succ, i64_w, i32_w]
         rfl
        refine take_ (i := 3) (N := some 13) (v := ?_) (a' := ?_) #[T,T,T,T,F,F,F,F,F,F,F,F,F,F,F,F,F,F,F,F,F,F,F,F,F,F,F,F,F,F,F,F] rfl rfl (take_ofW HT_.out HW_.out (z_0)) (fun _ _ _ h => h) (Or.inl ⟨z_1, ?_⟩) hHeld ?_ ?_
        rotate_left
        ·rintro w' ⟨s0, s1, s2, s3, s4, s5, s6, s7, s8, s9⟩
         go_simp
         with_reducible rfl
        rotate_left
        ·simp only [Act.put, List.setIfInBounds_toArray, List.set_cons_zero, List.set_cons_succ, i64_w, i32_w]
         rfl
        refine one_ (i := 4) (N := some 14) #[T,T,T,T,T,F,F,F,F,F,F,F,F,F,F,F,F,F,F,F,F,F,F,F,F,F,F,F,F,F,F,F] rfl rfl (one_of HT_.out (z_0)) (z_5) (fun K hK => ?_)
        refine goes_ Try.func19 (z_0) rfl #[.agg #[.string ((rd_T26 l0 x3_1).f0), .int .i64 ((rd_T26 l0 x3_1).f1), .int .i64 ((rd_T26 l0 x3_1).f2), .string ((rd_T26 l0 x3_1).f3), .int .i64 ((rd_T26 l0 x3_1).f4)]] (z_1) rfl rfl (z_14) ?_
        with_reducible refine (spec_NameOk.calls k1 ((rd_T26 l0 x3_1).f0) ((rd_T26 l0 x3_1).f1) ((rd_T26 l0 x3_1).f2) ((rd_T26 l0 x3_1).f3) ((rd_T26 l0 x3_1).f4) true _ A4.out).mono ?_
        rintro e w19 ⟨rfl, hb⟩
        refine ⟨_, rfl, ?_⟩
        have n0_ := Aside0.mk (below_step (z_8) hb)
        clear HB
        have HB := n0_
        clear n0_
        (try clear hb)
        (try clear hb2)
        (try clear hk)
        (try clear hi)
        refine hK.out _ _ ⟨(pw_cell_below HB.out hw234_0), (pw_cell_below HB.out hw234_1), (pw_cell_below HB.out hw234_2), (pw_cell_below HB.out hw234_3), (pw_cell_below HB.out hw234_4), (pw_cell_below HB.out hw236_0), (pw_cell_below HB.out hw236_1), (pw_cell_below HB.out hw236_2), (pw_cell_below HB.out hw236_3), (pw_cell_below HB.out hw236_4)⟩ (fun hHeld => ?_)
        clear hK K
        refine norm_ (a' := ?_) ?_ ?_
        rotate_left
        ·show Act.put _ (some 14) _ = _
         simp only [Act.put, List.setIfInBounds_toArray, List.set_cons_zero, List.set_cons_succ, i64_w, i32_w]
         rfl
        refine pure_ (i := 5) (N := some 15) (v := ?_) (a' := ?_) #[T,T,T,T,T,T,F,F,F,F,F,F,F,F,F,F,F,F,F,F,F,F,F,F,F,F,F,F,F,F,F,F] rfl rfl (any_of HT_.out (z_0)) (fun _ _ _ h => h) (Or.inl ⟨z_1, ?_⟩) ?_ ?_
        rotate_left
        ·intro w'
         go_simp
         with_reducible rfl
        rotate_left
        ·simp only [Act.put, List.setIfInBounds_toArray, List.set_cons_zero, List.set_cons_succ, i64_w, i32_w]
         rfl
        refine pure_ (i := 6) (N := some 16) (v := ?_) (a' := ?_) #[T,T,T,T,T,T,T,F,F,F,F,F,F,F,F,F,F,F,F,F,F,F,F,F,F,F,F,F,F,F,F,F] rfl rfl (any_of HT_.out (z_0)) (fun _ _ _ h => h) (Or.inl ⟨z_1, ?_⟩) ?_ ?_
        rotate_left
        ·intro w'
         go_simp
         with_reducible rfl
        rotate_left
        ·simp only [Act.put, List.setIfInBounds_toArray, List.set_cons_zero, List.set_cons_succ, i64_w, i32_w]
         rfl
        refine pure_ (i := 7) (N := some 17) (v := ?_) (a' := ?_) #[T,T,T,T,T,T,T,T,F,F,F,F,F,F,F,F,F,F,F,F,F,F,F,F,F,F,F,F,F,F,F,F] rfl rfl (any_of HT_.out (z_0)) (fun _ _ _ h => h) (Or.inl ⟨z_1, ?_⟩) ?_ ?_
        rotate_left
        ·intro w'
         go_simp
         with_reducible rfl
        rotate_left
        ·simp only [Act.put, List.setIfInBounds_toArray, List.set_cons_zero, List.set_cons_succ, i64_w, i32_w]
         rfl
        refine pure_ (i := 8) (N := some 18) (v := ?_) (a' := ?_) #[T,T,T,T,T,T,T,T,T,F,F,F,F,F,F,F,F,F,F,F,F,F,F,F,F,F,F,F,F,F,F,F] rfl rfl (any_of HT_.out (z_0)) (fun _ _ _ h => h) (Or.inl ⟨z_1, ?_⟩) ?_ ?_
        rotate_left
        ·intro w'
         go_simp
         with_reducible rfl
        rotate_left
        ·simp only [Act.put, List.setIfInBounds_toArray, List.set_cons_zero, List.set_cons_succ, i64_w, i32_w]
         rfl
        refine pure_ (i := 9) (N := some 19) (v := ?_) (a' := ?_) #[T,T,T,T,T,T,T,T,T,T,F,F,F,F,F,F,F,F,F,F,F,F,F,F,F,F,F,F,F,F,F,F] rfl rfl (any_of HT_.out (z_0)) (fun _ _ _ h => h) (Or.inl ⟨z_1, ?_⟩) ?_ ?_
        rotate_left
        ·intro w'
         go_simp
         with_reducible rfl
        rotate_left
        ·simp only [Act.put, List.setIfInBounds_toArray, List.set_cons_zero, List.set_cons_succ, i64_w, i32_w]
         rfl
        refine pure_ (i := 10) (N := some 20) (v := ?_) (a' := ?_) #[T,T,T,T,T,T,T,T,T,T,T,F,F,F,F,F,F,F,F,F,F,F,F,F,F,F,F,F,F,F,F,F] rfl rfl (any_of HT_.out (z_0)) (fun _ _ _ h => h) (Or.inl ⟨z_1, ?_⟩) ?_ ?_
        rotate_left
        ·intro w'
         go_simp
         with_reducible rfl
        rotate_left
        ·simp only [Act.put, List.setIfInBounds_toArray, List.set_cons_zero, List.set_cons_succ, i64_w, i32_w]
         rfl
        refine take_ (i := 11) (N := some 21) (v := ?_) (a' := ?_) #[T,T,T,T,T,T,T,T,T,T,T,T,F,F,F,F,F,F,F,F,F,F,F,F,F,F,F,F,F,F,F,F] rfl rfl (take_ofW HT_.out HW_.out (z_0)) (fun _ _ _ h => h) (Or.inl ⟨z_1, ?_⟩) hHeld ?_ ?_
        rotate_left
        ·rintro w' ⟨s0, s1, s2, s3, s4, s5, s6, s7, s8, s9⟩
         go_simp
         with_reducible rfl
        rotate_left
        ·simp only [Act.put, List.setIfInBounds_toArray, List.set_cons_zero, List.set_cons_succ, i64_w, i32_w]
         rfl
        refine pure_ (i := 12) (N := some 22) (v := ?_) (a' := ?_) #[T,T,T,T,T,T,T,T,T,T,T,T,T,F,F,F,F,F,F,F,F,F,F,F,F,F,F,F,F,F,F,F] rfl rfl (any_of HT_.out (z_0)) (fun _ _ _ h => h) (Or.inl ⟨z_1, ?_⟩) ?_ ?_
        rotate_left
        ·intro w'
         go_simp
         with_reducible rfl
        rotate_left
        ·simp only [Act.put, List.setIfInBounds_toArray, List.set_cons_zero, List.set_cons_succ, i64_w, i32_w]
         rfl
        refine pure_ (i := 13) (N := some 23) (v := ?_) (a' := ?_) #[T,T,T,T,T,T,T,T,T,T,T,T,T,T,F,F,F,F,F,F,F,F,F,F,F,F,F,F,F,F,F,F] rfl rfl (any_of HT_.out (z_0)) (fun _ _ _ h => h) (Or.inl ⟨z_1, ?_⟩) ?_ ?_
        rotate_left
        ·intro w'
         go_simp
         with_reducible rfl
        rotate_left
        ·simp only [Act.put, List.setIfInBounds_toArray, List.set_cons_zero, List.set_cons_succ, i64_w, i32_w]
         rfl
        refine pure_ (i := 14) (N := some 24) (v := ?_) (a' := ?_) #[T,T,T,T,T,T,T,T,T,T,T,T,T,T,T,F,F,F,F,F,F,F,F,F,F,F,F,F,F,F,F,F] rfl rfl (any_of HT_.out (z_0)) (fun _ _ _ h => h) (Or.inl ⟨z_1, ?_⟩) ?_ ?_
        rotate_left
        ·intro w'
         go_simp
         with_reducible rfl
        rotate_left
        ·simp only [Act.put, List.setIfInBounds_toArray, List.set_cons_zero, List.set_cons_succ, i64_w, i32_w]
         rfl
        refine pure_ (i := 15) (N := some 25) (v := ?_) (a' := ?_) #[T,T,T,T,T,T,T,T,T,T,T,T,T,T,T,T,F,F,F,F,F,F,F,F,F,F,F,F,F,F,F,F] rfl rfl (any_of HT_.out (z_0)) (fun _ _ _ h => h) (Or.inl ⟨z_1, ?_⟩) ?_ ?_
        rotate_left
        ·intro w'
         go_simp
         with_reducible rfl
        rotate_left
        ·simp only [Act.put, List.setIfInBounds_toArray, List.set_cons_zero, List.set_cons_succ, i64_w, i32_w]
         rfl
        refine pure_ (i := 16) (N := some 26) (v := ?_) (a' := ?_) #[T,T,T,T,T,T,T,T,T,T,T,T,T,T,T,T,T,F,F,F,F,F,F,F,F,F,F,F,F,F,F,F] rfl rfl (any_of HT_.out (z_0)) (fun _ _ _ h => h) (Or.inl ⟨z_1, ?_⟩) ?_ ?_
        rotate_left
        ·intro w'
         go_simp
         with_reducible rfl
        rotate_left
        ·simp only [Act.put, List.setIfInBounds_toArray, List.set_cons_zero, List.set_cons_succ, i64_w, i32_w]
         rfl
        refine pure_ (i := 17) (N := some 27) (v := ?_) (a' := ?_) #[T,T,T,T,T,T,T,T,T,T,T,T,T,T,T,T,T,T,F,F,F,F,F,F,F,F,F,F,F,F,F,F] rfl rfl (any_of HT_.out (z_0)) (fun _ _ _ h => h) (Or.inl ⟨z_1, ?_⟩) ?_ ?_
        rotate_left
        ·intro w'
         go_simp
         with_reducible rfl
        rotate_left
        ·simp only [Act.put, List.setIfInBounds_toArray, List.set_cons_zero, List.set_cons_succ, i64_w, i32_w]
         rfl
        refine pure_ (i := 18) (N := some 28) (v := undef) (a' := ?_) #[T,T,T,T,T,T,T,T,T,T,T,T,T,T,T,T,T,T,T,F,F,F,F,F,F,F,F,F,F,F,F,F] rfl rfl (any_of HT_.out (z_0)) (fun _ _ _ h => h) (Or.inr ⟨z_1, rfl⟩) ?_ ?_
        rotate_left
        ·simp only [Act.put, List.setIfInBounds_toArray, List.set_cons_zero, List.set_cons_succ, i64_w, i32_w]
         rfl
        refine pure_ (i := 19) (N := some 29) (v := undef) (a' := ?_) #[T,T,T,T,T,T,T,T,T,T,T,T,T,T,T,T,T,T,T,T,F,F,F,F,F,F,F,F,F,F,F,F] rfl rfl (any_of HT_.out (z_0)) (fun _ _ _ h => h) (Or.inr ⟨z_1, rfl⟩) ?_ ?_
        rotate_left
        ·simp only [Act.put, List.setIfInBounds_toArray, List.set_cons_zero, List.set_cons_succ, i64_w, i32_w]
         rfl
        refine pure_ (i := 20) (N := some 30) (v := undef) (a' := ?_) #[T,T,T,T,T,T,T,T,T,T,T,T,T,T,T,T,T,T,T,T,T,F,F,F,F,F,F,F,F,F,F,F] rfl rfl (any_of HT_.out (z_0)) (fun _ _ _ h => h) (Or.inr ⟨z_1, rfl⟩) ?_ ?_
        rotate_left
        ·simp only [Act.put, List.setIfInBounds_toArray, List.set_cons_zero, List.set_cons_succ, i64_w, i32_w]
         rfl
        refine pure_ (i := 21) (N := some 31) (v := undef) (a' := ?_) #[T,T,T,T,T,T,T,T,T,T,T,T,T,T,T,T,T,T,T,T,T,T,F,F,F,F,F,F,F,F,F,F] rfl rfl (any_of HT_.out (z_0)) (fun _ _ _ h => h) (Or.inr ⟨z_1, rfl⟩) ?_ ?_
        rotate_left
        ·simp only [Act.put, List.setIfInBounds_toArray, List.set_cons_zero, List.set_cons_succ, i64_w, i32_w]
         rfl
        refine pure_ (i := 22) (N := some 32) (v := undef) (a' := ?_) #[T,T,T,T,T,T,T,T,T,T,T,T,T,T,T,T,T,T,T,T,T,T,T,F,F,F,F,F,F,F,F,F] rfl rfl (any_of HT_.out (z_0)) (fun _ _ _ h => h) (Or.inr ⟨z_1, rfl⟩) ?_ ?_
        rotate_left
        ·simp only [Act.put, List.setIfInBounds_toArray, List.set_cons_zero, List.set_cons_succ, i64_w, i32_w]
         rfl
        refine pure_ (i := 23) (N := some 33) (v := undef) (a' := ?_) #[T,T,T,T,T,T,T,T,T,T,T,T,T,T,T,T,T,T,T,T,T,T,T,T,F,F,F,F,F,F,F,F] rfl rfl (any_of HT_.out (z_0)) (fun _ _ _ h => h) (Or.inr ⟨z_1, rfl⟩) ?_ ?_
        rotate_left
        ·simp only [Act.put, List.setIfInBounds_toArray, List.set_cons_zero, List.set_cons_succ, i64_w, i32_w]
         rfl
        refine pure_ (i := 24) (N := some 34) (v := undef) (a' := ?_) #[T,T,T,T,T,T,T,T,T,T,T,T,T,T,T,T,T,T,T,T,T,T,T,T,T,F,F,F,F,F,F,F] rfl rfl (any_of HT_.out (z_0)) (fun _ _ _ h => h) (Or.inr ⟨z_1, rfl⟩) ?_ ?_
        rotate_left
        ·simp only [Act.put, List.setIfInBounds_toArray, List.set_cons_zero, List.set_cons_succ, i64_w, i32_w]
         rfl
        refine pure_ (i := 25) (N := some 35) (v := undef) (a' := ?_) #[T,T,T,T,T,T,T,T,T,T,T,T,T,T,T,T,T,T,T,T,T,T,T,T,T,T,F,F,F,F,F,F] rfl rfl (any_of HT_.out (z_0)) (fun _ _ _ h => h) (Or.inr ⟨z_1, rfl⟩) ?_ ?_
        rotate_left
        ·simp only [Act.put, List.setIfInBounds_toArray, List.set_cons_zero, List.set_cons_succ, i64_w, i32_w]
         rfl
        refine pure_ (i := 26) (N := some 36) (v := undef) (a' := ?_) #[T,T,T,T,T,T,T,T,T,T,T,T,T,T,T,T,T,T,T,T,T,T,T,T,T,T,T,F,F,F,F,F] rfl rfl (any_of HT_.out (z_0)) (fun _ _ _ h => h) (Or.inr ⟨z_1, rfl⟩) ?_ ?_
        rotate_left
        ·simp only [Act.put, List.setIfInBounds_toArray, List.set_cons_zero, List.set_cons_succ, i64_w, i32_w]
         rfl
        refine pure_ (i := 27) (N := some 37) (v := undef) (a' := ?_) #[T,T,T,T,T,T,T,T,T,T,T,T,T,T,T,T,T,T,T,T,T,T,T,T,T,T,T,T,F,F,F,F] rfl rfl (any_of HT_.out (z_0)) (fun _ _ _ h => h) (Or.inr ⟨z_1, rfl⟩) ?_ ?_
        rotate_left
        ·simp only [Act.put, List.setIfInBounds_toArray, List.set_cons_zero, List.set_cons_succ, i64_w, i32_w]
         rfl
        refine pure_ (i := 28) (N := some 38) (v := undef) (a' := ?_) #[T,T,T,T,T,T,T,T,T,T,T,T,T,T,T,T,T,T,T,T,T,T,T,T,T,T,T,T,T,F,F,F] rfl rfl (any_of HT_.out (z_0)) (fun _ _ _ h => h) (Or.inr ⟨z_1, rfl⟩) ?_ ?_
        rotate_left
        ·simp only [Act.put, List.setIfInBounds_toArray, List.set_cons_zero, List.set_cons_succ, i64_w, i32_w]
         rfl
        refine pure_ (i := 29) (N := some 39) (v := undef) (a' := ?_) #[T,T,T,T,T,T,T,T,T,T,T,T,T,T,T,T,T,T,T,T,T,T,T,T,T,T,T,T,T,T,F,F] rfl rfl (any_of HT_.out (z_0)) (fun _ _ _ h => h) (Or.inr ⟨z_1, rfl⟩) ?_ ?_
        rotate_left
        ·simp only [Act.put, List.setIfInBounds_toArray, List.set_cons_zero, List.set_cons_succ, i64_w, i32_w]
         rfl
        refine pure_ (i := 30) (N := some 40) (v := ?_) (a' := ?_) #[T,T,T,T,T,T,T,T,T,T,T,T,T,T,T,T,T,T,T,T,T,T,T,T,T,T,T,T,T,T,T,F] rfl rfl (any_of HT_.out (z_0)) (fun _ _ _ h => h) (Or.inl ⟨z_1, ?_⟩) ?_ ?_
        rotate_left
        ·intro w'
         go_simp
         with_reducible rfl
        rotate_left
        ·simp only [Act.put, List.setIfInBounds_toArray, List.set_cons_zero, List.set_cons_succ, i64_w, i32_w]
         rfl
        refine pure_ (i := 31) (N := some 41) (v := ?_) (a' := ?_) #[T,T,T,T,T,T,T,T,T,T,T,T,T,T,T,T,T,T,T,T,T,T,T,T,T,T,T,T,T,T,T,T] rfl rfl (any_of HT_.out (z_0)) (fun _ _ _ h => h) (Or.inl ⟨z_1, ?_⟩) ?_ ?_
        rotate_left
        ·intro w'
         go_simp
         with_reducible rfl
        rotate_left
        ·simp only [Act.put, List.setIfInBounds_toArray, List.set_cons_zero, List.set_cons_succ, i64_w, i32_w]
         rfl
        refine done_ (done_of HT_.out (z_0)) ?_
        try go_wp2
        go_roundg k1
        case measure => have := HK1.out; omega
        case rel => exact ⟨(wrap64 (x3_1 + 1)), (z_3), H', ⟨z_10⟩, ⟨z_8⟩⟩
     ·replace c5 := Bool.eq_false_iff.mpr c5
      subst c5
      rw [if_neg (show ¬ (false = true) by decide)] at H
      obtain rfl := Option.some.inj H
      try go_wp2
      have n0_ := Aside0.mk (below_drew1 HB.out)
      clear HB
      have HB := n0_
      clear n0_
      have p234 : 0 ≤ (x3_1 : Int) := of_decide_eq_true (z_7)
      have q234 : x3_1 < (l0.length : Int) := of_decide_eq_true (z_7)
      obtain ⟨ad234, e234, hx234_0, hx234_1, hx234_2, hx234_3, hx234_4⟩ := at_T26 HR0.out x3_1 p234 q234
      have hw234_4 := hx234_4
      have hw234_3 := hx234_3
      have hw234_2 := hx234_2
      have hw234_1 := hx234_1
      have hw234_0 := hx234_0
      cases e234
      replace hx234_0 := pw_cell_below HB.out hx234_0
      replace hx234_1 := pw_cell_below HB.out hx234_1
      replace hx234_2 := pw_cell_below HB.out hx234_2
      replace hx234_3 := pw_cell_below HB.out hx234_3
      replace hx234_4 := pw_cell_below HB.out hx234_4
      replace p234 := eq_true p234
      replace q234 := eq_true q234
      refine start_ (n := 32) (S := fun w' => w'.cell? (ad234.add ((x3_1).toNat * 5)) = some (.string ((rd_T26 l0 x3_1).f0)) ∧ w'.cell? ⟨(ad234.add ((x3_1).toNat * 5)).block, (ad234.add ((x3_1).toNat * 5)).off + 1, none⟩ = some (.int .i64 ((rd_T26 l0 x3_1).f1)) ∧ w'.cell? ⟨(ad234.add ((x3_1).toNat * 5)).block, (ad234.add ((x3_1).toNat * 5)).off + 2, none⟩ = some (.int .i64 ((rd_T26 l0 x3_1).f2)) ∧ w'.cell? ⟨(ad234.add ((x3_1).toNat * 5)).block, (ad234.add ((x3_1).toNat * 5)).off + 3, none⟩ = some (.string ((rd_T26 l0 x3_1).f3)) ∧ w'.cell? ⟨(ad234.add ((x3_1).toNat * 5)).block, (ad234.add ((x3_1).toNat * 5)).off + 4, none⟩ = some (.int .i64 ((rd_T26 l0 x3_1).f4))) (ds := []) #[F,F,F,F,F,F,F,F,F,F,F,F,F,F,F,F,F,F,F,F,F,F,F,F,F,F,F,F,F,F,F,F] (z_0) rfl rfl ⟨(pw_cell_below HB.out hw234_0), (pw_cell_below HB.out hw234_1), (pw_cell_below HB.out hw234_2), (pw_cell_below HB.out hw234_3), (pw_cell_below HB.out hw234_4)⟩ (fun hHeld => ?_); refine with_tabW spec_NamesOk.tab4 spec_NamesOk.bits4 (fun HT_ HW_ => ?_)
      generalize wr.drew = w20 at HB hx234_0 hx234_1 hx234_2 hx234_3 hx234_4 hHeld ⊢
      refine pure_ (i := 0) (N := some 10) (v := ?_) (a' := ?_) #[T,F,F,F,F,F,F,F,F,F,F,F,F,F,F,F,F,F,F,F,F,F,F,F,F,F,F,F,F,F,F,F] rfl rfl (any_of HT_.out (z_0)) (fun _ _ _ h => h) (Or.inl ⟨z_1, ?_⟩) ?_ ?_
      rotate_left
      ·intro w'
       go_simp
       with_reducible rfl
      rotate_left
      ·simp only [Act.put, List.setIfInBounds_toArray, List.set_cons_zero, List.set_cons_succ, i64_w, i32_w]
       rfl
      refine pure_ (i := 1) (N := some 11) (v := ?_) (a' := ?_) #[T,T,F,F,F,F,F,F,F,F,F,F,F,F,F,F,F,F,F,F,F,F,F,F,F,F,F,F,F,F,F,F] rfl rfl (any_of HT_.out (z_0)) (fun _ _ _ h => h) (Or.inl ⟨z_1, ?_⟩) ?_ ?_
      rotate_left
      ·intro w'
       go_simp
       with_reducible rfl
      rotate_left
      ·simp only [Act.put, List.setIfInBounds_toArray, List.set_cons_zero, List.set_cons_succ, i64_w, i32_w]
       rfl
      refine pure_ (i := 2) (N := some 12) (v := ?_) (a' := ?_) #[T,T,T,F,F,F,F,F,F,F,F,F,F,F,F,F,F,F,F,F,F,F,F,F,F,F,F,F,F,F,F,F] rfl rfl (any_of HT_.out (z_0)) (fun _ _ _ h => h) (Or.inl ⟨z_1, ?_⟩) ?_ ?_
      rotate_left
      ·intro w'
       go_simp
       with_reducible rfl
      rotate_left
      ·simp only [Act.put, List.setIfInBounds_toArray, List.set_cons_zero, List.set_cons_succ, i64_w, i32_w]
       rfl
      refine take_ (i := 3) (N := some 13) (v := ?_) (a' := ?_) #[T,T,T,T,F,F,F,F,F,F,F,F,F,F,F,F,F,F,F,F,F,F,F,F,F,F,F,F,F,F,F,F] rfl rfl (take_ofW HT_.out HW_.out (z_0)) (fun _ _ _ h => h) (Or.inl ⟨z_1, ?_⟩) hHeld ?_ ?_
      rotate_left
      ·rintro w' ⟨s0, s1, s2, s3, s4⟩
       go_simp
       with_reducible rfl
      rotate_left
      ·simp only [Act.put, List.setIfInBounds_toArray, List.set_cons_zero, List.set_cons_succ, i64_w, i32_w]
       rfl
      refine one_ (i := 4) (N := some 14) #[T,T,T,T,T,F,F,F,F,F,F,F,F,F,F,F,F,F,F,F,F,F,F,F,F,F,F,F,F,F,F,F] rfl rfl (one_of HT_.out (z_0)) (z_5) (fun K hK => ?_)
      refine goes_ Try.func19 (z_0) rfl #[.agg #[.string ((rd_T26 l0 x3_1).f0), .int .i64 ((rd_T26 l0 x3_1).f1), .int .i64 ((rd_T26 l0 x3_1).f2), .string ((rd_T26 l0 x3_1).f3), .int .i64 ((rd_T26 l0 x3_1).f4)]] (z_1) rfl rfl (z_14) ?_
      with_reducible refine (spec_NameOk.calls k1 ((rd_T26 l0 x3_1).f0) ((rd_T26 l0 x3_1).f1) ((rd_T26 l0 x3_1).f2) ((rd_T26 l0 x3_1).f3) ((rd_T26 l0 x3_1).f4) false _ A4.out).mono ?_
      rintro e w21 ⟨rfl, hb⟩
      refine ⟨_, rfl, ?_⟩
      have n0_ := Aside0.mk (below_step (z_8) hb)
      clear HB
      have HB := n0_
      clear n0_
      (try clear hb)
      (try clear hb2)
      (try clear hk)
      (try clear hi)
      refine hK.out _ _ ⟨(pw_cell_below HB.out hw234_0), (pw_cell_below HB.out hw234_1), (pw_cell_below HB.out hw234_2), (pw_cell_below HB.out hw234_3), (pw_cell_below HB.out hw234_4)⟩ (fun hHeld => ?_)
      clear hK K
      refine norm_ (a' := ?_) ?_ ?_
      rotate_left
      ·show Act.put _ (some 14) _ = _
       simp only [Act.put, List.setIfInBounds_toArray, List.set_cons_zero, List.set_cons_succ, i64_w, i32_w]
       rfl
      refine pure_ (i := 5) (N := some 15) (v := ?_) (a' := ?_) #[T,T,T,T,T,T,F,F,F,F,F,F,F,F,F,F,F,F,F,F,F,F,F,F,F,F,F,F,F,F,F,F] rfl rfl (any_of HT_.out (z_0)) (fun _ _ _ h => h) (Or.inl ⟨z_1, ?_⟩) ?_ ?_
      rotate_left
      ·intro w'
       go_simp
       with_reducible rfl
      rotate_left
      ·simp only [Act.put, List.setIfInBounds_toArray, List.set_cons_zero, List.set_cons_succ, i64_w, i32_w]
       rfl
      refine pure_ (i := 6) (N := some 16) (v := ?_) (a' := ?_) #[T,T,T,T,T,T,T,F,F,F,F,F,F,F,F,F,F,F,F,F,F,F,F,F,F,F,F,F,F,F,F,F] rfl rfl (any_of HT_.out (z_0)) (fun _ _ _ h => h) (Or.inl ⟨z_1, ?_⟩) ?_ ?_
      rotate_left
      ·intro w'
       go_simp
       with_reducible rfl
      rotate_left
      ·simp only [Act.put, List.setIfInBounds_toArray, List.set_cons_zero, List.set_cons_succ, i64_w, i32_w]
       rfl
      refine pure_ (i := 7) (N := some 17) (v := undef) (a' := ?_) #[T,T,T,T,T,T,T,T,F,F,F,F,F,F,F,F,F,F,F,F,F,F,F,F,F,F,F,F,F,F,F,F] rfl rfl (any_of HT_.out (z_0)) (fun _ _ _ h => h) (Or.inr ⟨z_1, rfl⟩) ?_ ?_
      rotate_left
      ·simp only [Act.put, List.setIfInBounds_toArray, List.set_cons_zero, List.set_cons_succ, i64_w, i32_w]
       rfl
      refine pure_ (i := 8) (N := some 18) (v := undef) (a' := ?_) #[T,T,T,T,T,T,T,T,T,F,F,F,F,F,F,F,F,F,F,F,F,F,F,F,F,F,F,F,F,F,F,F] rfl rfl (any_of HT_.out (z_0)) (fun _ _ _ h => h) (Or.inr ⟨z_1, rfl⟩) ?_ ?_
      rotate_left
      ·simp only [Act.put, List.setIfInBounds_toArray, List.set_cons_zero, List.set_cons_succ, i64_w, i32_w]
       rfl
      refine pure_ (i := 9) (N := some 19) (v := undef) (a' := ?_) #[T,T,T,T,T,T,T,T,T,T,F,F,F,F,F,F,F,F,F,F,F,F,F,F,F,F,F,F,F,F,F,F] rfl rfl (any_of HT_.out (z_0)) (fun _ _ _ h => h) (Or.inr ⟨z_1, rfl⟩) ?_ ?_
      rotate_left
      ·simp only [Act.put, List.setIfInBounds_toArray, List.set_cons_zero, List.set_cons_succ, i64_w, i32_w]
       rfl
      refine pure_ (i := 10) (N := some 20) (v := undef) (a' := ?_) #[T,T,T,T,T,T,T,T,T,T,T,F,F,F,F,F,F,F,F,F,F,F,F,F,F,F,F,F,F,F,F,F] rfl rfl (any_of HT_.out (z_0)) (fun _ _ _ h => h) (Or.inr ⟨z_1, rfl⟩) ?_ ?_
      rotate_left
      ·simp only [Act.put, List.setIfInBounds_toArray, List.set_cons_zero, List.set_cons_succ, i64_w, i32_w]
       rfl
      refine pure_ (i := 11) (N := some 21) (v := undef) (a' := ?_) #[T,T,T,T,T,T,T,T,T,T,T,T,F,F,F,F,F,F,F,F,F,F,F,F,F,F,F,F,F,F,F,F] rfl rfl (any_of HT_.out (z_0)) (fun _ _ _ h => h) (Or.inr ⟨z_1, rfl⟩) ?_ ?_
      rotate_left
      ·simp only [Act.put, List.setIfInBounds_toArray, List.set_cons_zero, List.set_cons_succ, i64_w, i32_w]
       rfl
      refine pure_ (i := 12) (N := some 22) (v := undef) (a' := ?_) #[T,T,T,T,T,T,T,T,T,T,T,T,T,F,F,F,F,F,F,F,F,F,F,F,F,F,F,F,F,F,F,F] rfl rfl (any_of HT_.out (z_0)) (fun _ _ _ h => h) (Or.inr ⟨z_1, rfl⟩) ?_ ?_
      rotate_left
      ·simp only [Act.put, List.setIfInBounds_toArray, List.set_cons_zero, List.set_cons_succ, i64_w, i32_w]
       rfl
      refine pure_ (i := 13) (N := some 23) (v := ?_) (a' := ?_) #[T,T,T,T,T,T,T,T,T,T,T,T,T,T,F,F,F,F,F,F,F,F,F,F,F,F,F,F,F,F,F,F] rfl rfl (any_of HT_.out (z_0)) (fun _ _ _ h => h) (Or.inl ⟨z_1, ?_⟩) ?_ ?_
      rotate_left
      ·intro w'
       go_simp
       with_reducible rfl
      rotate_left
      ·simp only [Act.put, List.setIfInBounds_toArray, List.set_cons_zero, List.set_cons_succ, i64_w, i32_w]
       rfl
      refine pure_ (i := 14) (N := some 24) (v := ?_) (a' := ?_) #[T,T,T,T,T,T,T,T,T,T,T,T,T,T,T,F,F,F,F,F,F,F,F,F,F,F,F,F,F,F,F,F] rfl rfl (any_of HT_.out (z_0)) (fun _ _ _ h => h) (Or.inl ⟨z_1, ?_⟩) ?_ ?_
      rotate_left
      ·intro w'
       go_simp
       with_reducible rfl
      rotate_left
      ·simp only [Act.put, List.setIfInBounds_toArray, List.set_cons_zero, List.set_cons_succ, i64_w, i32_w]
       rfl
      refine pure_ (i := 15) (N := some 25) (v := undef) (a' := ?_) #[T,T,T,T,T,T,T,T,T,T,T,T,T,T,T,T,F,F,F,F,F,F,F,F,F,F,F,F,F,F,F,F] rfl rfl (any_of HT_.out (z_0)) (fun _ _ _ h => h) (Or.inr ⟨z_1, rfl⟩) ?_ ?_
      rotate_left
      ·simp only [Act.put, List.setIfInBounds_toArray, List.set_cons_zero, List.set_cons_succ, i64_w, i32_w]
       rfl
      refine pure_ (i := 16) (N := some 26) (v := undef) (a' := ?_) #[T,T,T,T,T,T,T,T,T,T,T,T,T,T,T,T,T,F,F,F,F,F,F,F,F,F,F,F,F,F,F,F] rfl rfl (any_of HT_.out (z_0)) (fun _ _ _ h => h) (Or.inr ⟨z_1, rfl⟩) ?_ ?_
      rotate_left
      ·simp only [Act.put, List.setIfInBounds_toArray, List.set_cons_zero, List.set_cons_succ, i64_w, i32_w]
       rfl
      refine pure_ (i := 17) (N := some 27) (v := undef) (a' := ?_) #[T,T,T,T,T,T,T,T,T,T,T,T,T,T,T,T,T,T,F,F,F,F,F,F,F,F,F,F,F,F,F,F] rfl rfl (any_of HT_.out (z_0)) (fun _ _ _ h => h) (Or.inr ⟨z_1, rfl⟩) ?_ ?_
      rotate_left
      ·simp only [Act.put, List.setIfInBounds_toArray, List.set_cons_zero, List.set_cons_succ, i64_w, i32_w]
       rfl
      refine pure_ (i := 18) (N := some 28) (v := undef) (a' := ?_) #[T,T,T,T,T,T,T,T,T,T,T,T,T,T,T,T,T,T,T,F,F,F,F,F,F,F,F,F,F,F,F,F] rfl rfl (any_of HT_.out (z_0)) (fun _ _ _ h => h) (Or.inr ⟨z_1, rfl⟩) ?_ ?_
      rotate_left
      ·simp only [Act.put, List.setIfInBounds_toArray, List.set_cons_zero, List.set_cons_succ, i64_w, i32_w]
       rfl
      refine pure_ (i := 19) (N := some 29) (v := undef) (a' := ?_) #[T,T,T,T,T,T,T,T,T,T,T,T,T,T,T,T,T,T,T,T,F,F,F,F,F,F,F,F,F,F,F,F] rfl rfl (any_of HT_.out (z_0)) (fun _ _ _ h => h) (Or.inr ⟨z_1, rfl⟩) ?_ ?_
      rotate_left
      ·simp only [Act.put, List.setIfInBounds_toArray, List.set_cons_zero, List.set_cons_succ, i64_w, i32_w]
       rfl
      refine pure_ (i := 20) (N := some 30) (v := undef) (a' := ?_) #[T,T,T,T,T,T,T,T,T,T,T,T,T,T,T,T,T,T,T,T,T,F,F,F,F,F,F,F,F,F,F,F] rfl rfl (any_of HT_.out (z_0)) (fun _ _ _ h => h) (Or.inr ⟨z_1, rfl⟩) ?_ ?_
      rotate_left
      ·simp only [Act.put, List.setIfInBounds_toArray, List.set_cons_zero, List.set_cons_succ, i64_w, i32_w]
       rfl
      refine pure_ (i := 21) (N := some 31) (v := undef) (a' := ?_) #[T,T,T,T,T,T,T,T,T,T,T,T,T,T,T,T,T,T,T,T,T,T,F,F,F,F,F,F,F,F,F,F] rfl rfl (any_of HT_.out (z_0)) (fun _ _ _ h => h) (Or.inr ⟨z_1, rfl⟩) ?_ ?_
      rotate_left
      ·simp only [Act.put, List.setIfInBounds_toArray, List.set_cons_zero, List.set_cons_succ, i64_w, i32_w]
       rfl
      refine pure_ (i := 22) (N := some 32) (v := undef) (a' := ?_) #[T,T,T,T,T,T,T,T,T,T,T,T,T,T,T,T,T,T,T,T,T,T,T,F,F,F,F,F,F,F,F,F] rfl rfl (any_of HT_.out (z_0)) (fun _ _ _ h => h) (Or.inr ⟨z_1, rfl⟩) ?_ ?_
      rotate_left
      ·simp only [Act.put, List.setIfInBounds_toArray, List.set_cons_zero, List.set_cons_succ, i64_w, i32_w]
       rfl
      refine pure_ (i := 23) (N := some 33) (v := undef) (a' := ?_) #[T,T,T,T,T,T,T,T,T,T,T,T,T,T,T,T,T,T,T,T,T,T,T,T,F,F,F,F,F,F,F,F] rfl rfl (any_of HT_.out (z_0)) (fun _ _ _ h => h) (Or.inr ⟨z_1, rfl⟩) ?_ ?_
      rotate_left
      ·simp only [Act.put, List.setIfInBounds_toArray, List.set_cons_zero, List.set_cons_succ, i64_w, i32_w]
       rfl
      refine pure_ (i := 24) (N := some 34) (v := undef) (a' := ?_) #[T,T,T,T,T,T,T,T,T,T,T,T,T,T,T,T,T,T,T,T,T,T,T,T,T,F,F,F,F,F,F,F] rfl rfl (any_of HT_.out (z_0)) (fun _ _ _ h => h) (Or.inr ⟨z_1, rfl⟩) ?_ ?_
      rotate_left
      ·simp only [Act.put, List.setIfInBounds_toArray, List.set_cons_zero, List.set_cons_succ, i64_w, i32_w]
       rfl
      refine pure_ (i := 25) (N := some 35) (v := undef) (a' := ?_) #[T,T,T,T,T,T,T,T,T,T,T,T,T,T,T,T,T,T,T,T,T,T,T,T,T,T,F,F,F,F,F,F] rfl rfl (any_of HT_.out (z_0)) (fun _ _ _ h => h) (Or.inr ⟨z_1, rfl⟩) ?_ ?_
      rotate_left
      ·simp only [Act.put, List.setIfInBounds_toArray, List.set_cons_zero, List.set_cons_succ, i64_w, i32_w]
       rfl
      refine pure_ (i := 26) (N := some 36) (v := undef) (a' := ?_) #[T,T,T,T,T,T,T,T,T,T,T,T,T,T,T,T,T,T,T,T,T,T,T,T,T,T,T,F,F,F,F,F] rfl rfl (any_of HT_.out (z_0)) (fun _ _ _ h => h) (Or.inr ⟨z_1, rfl⟩) ?_ ?_
      rotate_left
      ·simp only [Act.put, List.setIfInBounds_toArray, List.set_cons_zero, List.set_cons_succ, i64_w, i32_w]
       rfl
      refine pure_ (i := 27) (N := some 37) (v := undef) (a' := ?_) #[T,T,T,T,T,T,T,T,T,T,T,T,T,T,T,T,T,T,T,T,T,T,T,T,T,T,T,T,F,F,F,F] rfl rfl (any_of HT_.out (z_0)) (fun _ _ _ h => h) (Or.inr ⟨z_1, rfl⟩) ?_ ?_
      rotate_left
      ·simp only [Act.put, List.setIfInBounds_toArray, List.set_cons_zero, List.set_cons_succ, i64_w, i32_w]
       rfl
      refine pure_ (i := 28) (N := some 38) (v := undef) (a' := ?_) #[T,T,T,T,T,T,T,T,T,T,T,T,T,T,T,T,T,T,T,T,T,T,T,T,T,T,T,T,T,F,F,F] rfl rfl (any_of HT_.out (z_0)) (fun _ _ _ h => h) (Or.inr ⟨z_1, rfl⟩) ?_ ?_
      rotate_left
      ·simp only [Act.put, List.setIfInBounds_toArray, List.set_cons_zero, List.set_cons_succ, i64_w, i32_w]
       rfl
      refine pure_ (i := 29) (N := some 39) (v := undef) (a' := ?_) #[T,T,T,T,T,T,T,T,T,T,T,T,T,T,T,T,T,T,T,T,T,T,T,T,T,T,T,T,T,T,F,F] rfl rfl (any_of HT_.out (z_0)) (fun _ _ _ h => h) (Or.inr ⟨z_1, rfl⟩) ?_ ?_
      rotate_left
      ·simp only [Act.put, List.setIfInBounds_toArray, List.set_cons_zero, List.set_cons_succ, i64_w, i32_w]
       rfl
      refine pure_ (i := 30) (N := some 40) (v := undef) (a' := ?_) #[T,T,T,T,T,T,T,T,T,T,T,T,T,T,T,T,T,T,T,T,T,T,T,T,T,T,T,T,T,T,T,F] rfl rfl (any_of HT_.out (z_0)) (fun _ _ _ h => h) (Or.inr ⟨z_1, rfl⟩) ?_ ?_
      rotate_left
      ·simp only [Act.put, List.setIfInBounds_toArray, List.set_cons_zero, List.set_cons_succ, i64_w, i32_w]
       rfl
      refine pure_ (i := 31) (N := some 41) (v := ?_) (a' := ?_) #[T,T,T,T,T,T,T,T,T,T,T,T,T,T,T,T,T,T,T,T,T,T,T,T,T,T,T,T,T,T,T,T] rfl rfl (any_of HT_.out (z_0)) (fun _ _ _ h => h) (Or.inl ⟨z_1, ?_⟩) ?_ ?_
      rotate_left
      ·intro w'
       go_simp
       with_reducible rfl
      rotate_left
      ·simp only [Act.put, List.setIfInBounds_toArray, List.set_cons_zero, List.set_cons_succ, i64_w, i32_w]
       rfl
      refine done_ (done_of HT_.out (z_0)) ?_
      try go_wp2
      go_ret
      exact ⟨z_13, z_8⟩
    ·rw [if_neg c3] at H
     exact absurd H (z_12)
   ·rw [if_neg c2] at H
    have c2b0 : decide (x3_1 < (l0.length : Int)) = false := decide_eq_false c2
    clear c2
    obtain rfl := Option.some.inj H
    go_wp2
    go_ret
    exact ⟨z_13, z_8⟩

end Go.Proofs.Ytmgnmgobibpjjaa.GFnKeptFind
