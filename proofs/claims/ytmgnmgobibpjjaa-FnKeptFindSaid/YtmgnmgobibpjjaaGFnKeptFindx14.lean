/- What the Go functions that FnKeptFind reaches come to, walked step by step; there is no condition beyond those each statement names. -/
import Derived.Test.YtmgnmgobibpjjaaGFnKeptFindx0
import Derived.Test.YtmgnmgobibpjjaaGFnKeptFindx4
import Derived.Test.YtmgnmgobibpjjaaGFnKeptFindx6
import Derived.Test.YtmgnmgobibpjjaaGFnKeptFindx12
import Derived.Test.YtmgnmgobibpjjaaGFnKeptFindx13
namespace Go.Proofs.Ytmgnmgobibpjjaa.GFnKeptFind
open Go.RowKit Go.Proofs.YtmgnmgobibpjjaaVKeptFind.PrintWords Go.Proofs.YtmgnmgobibpjjaaVKeptFind.PrintLast Go.Proofs.YtmgnmgobibpjjaaVKeptFind.PrintMore
open Bool renaming true → T, false → F
attribute [local go_sem] max2_int min2_int max_two min_two max_three min_three max_four min_four   -- for this text's walks alone
set_option linter.unusedVariables false
set_option linter.unusedSimpArgs false

/-! ### impl_keep: function 74 -/
def impl_keep.j0 : Nat → List (S83) → List (S26) → ByteArray → Int → Int → Bool → Option ((List (S83)) × ByteArray × Int × Int × ByteArray × Int × Bool)
 | 0, _, _, _, _, _, _ => none
 | k + 1, x0, x1, x2, x3, x11, x27 => if x27 = true then ((impl_Kept_75.f x0).bind fun t366 => (if 0 ≤ x11 then (if x11 < (x0.length : Int) then (some (t366, (rd_T83 x0 x11).f0.f0, (rd_T83 x0 x11).f0.f1, (rd_T83 x0 x11).f0.f2, (rd_T83 x0 x11).f0.f3, (rd_T83 x0 x11).f0.f4, true)) else (none)) else (none))) else ((impl_ask.f k x1 x2).bind fun bt370 => ((impl_Kept_84.f x0).bind fun t376 => (if x11 ≥ 0 then ((impl_Kept_85.f k t376 x11 (wrap64 (x11 + 1))).bind fun t379 => (if t379.length < 2199023255552 then ((some (t379 ++ [(⟨(⟨bt370.1, bt370.2.1, bt370.2.2.1, bt370.2.2.2.1, bt370.2.2.2.2⟩ : S26), wrap64 (x3 + bt370.2.2.2.2)⟩ : S83)] : List (S83))).bind fun y382 => (if 0 ≤ (mx 0 (wrap64 ((y382.length : Int) - 5))) then (if (mx 0 (wrap64 ((y382.length : Int) - 5))) ≤ (y382.length : Int) then ((impl_Kept_75.f (y382.drop ((mx 0 (wrap64 ((y382.length : Int) - 5))) : Int).toNat)).bind fun t389 => (some (t389, bt370.1, bt370.2.1, bt370.2.2.1, bt370.2.2.2.1, bt370.2.2.2.2, false))) else (none)) else (none))) else (none))) else (if t376.length < 2199023255552 then ((some (t376 ++ [(⟨(⟨bt370.1, bt370.2.1, bt370.2.2.1, bt370.2.2.2.1, bt370.2.2.2.2⟩ : S26), wrap64 (x3 + bt370.2.2.2.2)⟩ : S83)] : List (S83))).bind fun y392 => (if 0 ≤ (mx 0 (wrap64 ((y392.length : Int) - 5))) then (if (mx 0 (wrap64 ((y392.length : Int) - 5))) ≤ (y392.length : Int) then ((impl_Kept_75.f (y392.drop ((mx 0 (wrap64 ((y392.length : Int) - 5))) : Int).toNat)).bind fun t399 => (some (t399, bt370.1, bt370.2.1, bt370.2.2.1, bt370.2.2.2.1, bt370.2.2.2.2, false))) else (none)) else (none))) else (none)))))
def impl_keep.f (k : Nat) (l0 : List (S83)) (l1 : List (S26)) (a2 : ByteArray) (a3 : Int) : Option ((List (S83)) × ByteArray × Int × Int × ByteArray × Int × Bool) := (impl_keptAt.f k l0 a2).bind fun t364 => (if t364 ≥ 0 then (if 0 ≤ t364 then (if t364 < (l0.length : Int) then (impl_keep.j0 k l0 l1 a2 a3 t364 (decide (((rd_T83 l0 t364).f1) > a3))) else (none)) else (none)) else (impl_keep.j0 k l0 l1 a2 a3 t364 false))
theorem impl_keep.mono_l : ∀ k, (∀ y0 y1 y2 y3 y4 y5, LeO (impl_keep.j0 k y0 y1 y2 y3 y4 y5) (impl_keep.j0 (k + 1) y0 y1 y2 y3 y4 y5))
 | 0 => fun _ _ _ _ _ _ r h => by simp [impl_keep.j0] at h
 | k + 1 => by
  have ih0 := impl_keep.mono_l k
  ·intro y0 y1 y2 y3 y4 y5
   unfold impl_keep.j0
   repeat' first
   | (with_reducible exact ih0 _ _ _ _ _ _)
   | (with_reducible exact impl_Kept_85.mono _ _ _ _)
   | (with_reducible exact impl_ask.mono _ _ _)
   | (with_reducible exact impl_keptAt.mono _ _ _)
   | (with_reducible exact LeO.refl _)
   | (with_reducible exact LeO.none _)
   | (with_reducible refine LeO.ite ?_ ?_)
   | (with_reducible refine LeO.bind ?_ (fun _ => ?_))
   | exact ih0 _ _ _ _ _ _
   | exact impl_Kept_85.mono _ _ _ _
   | exact impl_ask.mono _ _ _
   | exact impl_keptAt.mono _ _ _
   | exact LeO.none _
   | refine LeO.ite ?_ ?_
   | refine LeO.bind ?_ (fun _ => ?_)
theorem impl_keep.mono : ∀ a0 a1 a2 a3 k, LeO (impl_keep.f k a0 a1 a2 a3) (impl_keep.f (k + 1) a0 a1 a2 a3) := by
 intro a0 a1 a2 a3 k
 have ih0 := impl_keep.mono_l k
 unfold impl_keep.f
 repeat' first
   | (with_reducible exact ih0 _ _ _ _ _ _)
   | (with_reducible exact impl_Kept_85.mono _ _ _ _)
   | (with_reducible exact impl_ask.mono _ _ _)
   | (with_reducible exact impl_keptAt.mono _ _ _)
   | (with_reducible exact LeO.refl _)
   | (with_reducible exact LeO.none _)
   | (with_reducible refine LeO.ite ?_ ?_)
   | (with_reducible refine LeO.bind ?_ (fun _ => ?_))
   | exact ih0 _ _ _ _ _ _
   | exact impl_Kept_85.mono _ _ _ _
   | exact impl_ask.mono _ _ _
   | exact impl_keptAt.mono _ _ _
   | exact LeO.none _
   | refine LeO.ite ?_ ?_
   | refine LeO.bind ?_ (fun _ => ?_)
def impl_keep.T3 : Bool × List (List Nat × List Nat) := (true, [([], []), ([0], [0]), ([], []), ([], []), ([2, 3], [2, 3]), ([4], [4]), ([5], [5]), ([1, 1, 0, 1], [1]), ([6, 7, 0, 1, 2, 3, 4, 5, 6, 7], [6]), ([8, 0, 1, 2, 3, 4, 5, 6, 7, 8], [])])
def impl_keep.B3 : List Nat := [0, 1, 0, 0, 12, 28, 60, 3, 255, 511]
theorem impl_keep.tab3 : rtab .any (opsOf Try.f74 3) = impl_keep.T3 := z_0
theorem impl_keep.bits3 : waitsOk impl_keep.T3.2 impl_keep.B3 = true := z_0
def impl_keep.T9 : Bool × List (List Nat × List Nat) := (true, [([], []), ([], []), ([1], [1]), ([2], [2]), ([3], [3]), ([0, 4], [0, 4]), ([5], [5]), ([], []), ([6, 6, 0, 1, 2, 3, 4, 5, 6], [6]), ([7, 8, 0, 1, 2, 3, 4, 5, 6, 7, 8], [7]), ([9, 0, 1, 2, 3, 4, 5, 6, 7, 8, 9], [])])
def impl_keep.B9 : List Nat := [0, 0, 2, 6, 14, 31, 63, 0, 127, 511, 1023]
theorem impl_keep.tab9 : rtab .any (opsOf Try.f74 9) = impl_keep.T9 := z_0
theorem impl_keep.bits9 : waitsOk impl_keep.T9.2 impl_keep.B9 = true := z_0
set_option maxHeartbeats 8000000 in
set_option maxRecDepth 100000 in
theorem impl_keep.calls (k : Nat) (A0 : Option Addr) (c0 : Nat) (l0 : List (S83)) (A1 : Option Addr) (c1 : Nat) (l1 : List (S26)) (a2 : ByteArray) (a3 : Int) (r1 : List (S83)) (r2 : ByteArray) (r3 : Int) (r4 : Int) (r5 : ByteArray) (r6 : Int) (r7 : Bool) (w : World) (hr0 : Kd.C k83 w A0 l0.length l0) (hc0 : l0.length ≤ c0) (hr1 : Kd.C k26 w A1 l1.length l1) (hc1 : l1.length ≤ c1) (h : impl_keep.f k l0 l1 a2 a3 = some (r1, r2, r3, r4, r5, r6, r7)) :
  Calls Try.prog 74 #[.slice A0 l0.length c0, .slice A1 l1.length c1, .string a2, .int .i64 a3] w fun e w' => ∃ v0_ : Value, e = .returned (.tuple #[v0_, .agg #[.string r2, .int .i64 r3, .int .i64 r4, .string r5, .int .i64 r6], .bool r7]) ∧ Kd.R k83 83 w' w.heap.size (fun _ => True) v0_ r1 ∧ Below w.heap.size w w' := by
 have hu26 := Try.underlying26
 have hu83 := Try.underlying83
 have HR0 := Aside0.mk hr0
 have HC0 := Aside0.mk hc0
 clear hr0 hc0
 have HR1 := Aside0.mk hr1
 have HC1 := Aside0.mk hc1
 clear hr1 hc1
 have HB := Aside0.mk (Below.refl w.heap.size w)
 have H : ((impl_keptAt.f k l0 a2).bind fun t364 => (if t364 ≥ 0 then (if 0 ≤ t364 then (if t364 < (l0.length : Int) then (impl_keep.j0 k l0 l1 a2 a3 t364 (decide (((rd_T83 l0 t364).f1) > a3))) else (none)) else (none)) else (impl_keep.j0 k l0 l1 a2 a3 t364 false))) = some (r1, r2, r3, r4, r5, r6, r7) := h
 clear h
 replace H := Option.bind_eq_some_iff.mp H
 obtain ⟨t364, A50, H⟩ := H
 have A5 := Aside0.mk A50
 clear A50
 have HC6 := Aside0.mk H
 clear H
 go_enter Try.func74, Try.ntmps74
 go_upto_region 2 with (first | ((with_reducible refine gate_dst (N := 9) rfl ?_); refine box_event ?hg (N := 9) ?hd (cs := #[.string (⟨#[]⟩ : ByteArray), .int .i64 0, .int .i64 0, .string (⟨#[]⟩ : ByteArray), .int .i64 0]) (t := 26) ?hr ?_; (case hd => rfl); (case hg => rfl); (case hr => exact z_9); intro gb363 hg w7 hbox hb; have n0_ := Aside0.mk (below_step (z_8) hb); have n1_ := Aside0.mk (hbox); have n2_ := Aside0.mk ((z_20 : w.heap.size ≤ gb363)); have n3_ := Aside0.mk ((z_20 : w.heap.size ≤ gb363)); clear HB; have HB := n0_; have BK363 := n1_; have GW363 := n2_; have GE363 := n3_; clear n0_ n1_ n2_ n3_; clear hb hbox hg) | ((with_reducible refine gate_callee (f := 66) rfl ?_); refine goesL_ (some 16) rfl rfl Try.func66 (z_0) rfl #[.slice A0 l0.length c0, .string a2] rfl (z_14) ?_; (with_reducible refine (impl_keptAt.calls k _ _ l0 a2 t364 _ ?side1 ?side2 A5.out).mono ?_); (case side1 => exact z_56); (case side2 => exact HC0.out); rintro e w8 ⟨rfl, hb⟩; refine ⟨_, rfl, ?_⟩; have n0_ := Aside0.mk (blk_below (g := gb363) (o := .cells #[.string (⟨#[]⟩ : ByteArray), .int .i64 0, .int .i64 0, .string (⟨#[]⟩ : ByteArray), .int .i64 0] 26 (0, 0)) (z_94) hb); have n1_ := Aside0.mk (below_step (z_95) hb); clear BK363; clear HB; have BK363 := n0_; have HB := n1_; clear n0_ n1_; (try clear hb); (try clear hb2); (try clear hk); (try clear hi)))
 (try simp only [Act.put, List.setIfInBounds_toArray, List.set_cons_zero, List.set_cons_succ])
 go_cut [27] (fun v27 wc => ∃ (kq : Nat) (x27_5 : Bool), v27 = .bool x27_5 ∧ Aside0 (impl_keep.j0 kq l0 l1 a2 a3 t364 x27_5 = some (r1, r2, r3, r4, r5, r6, r7)) ∧ Aside0 (kq ≤ k) ∧ Aside0 (wc.heap[gb363]? = some (.cells #[.string (⟨#[]⟩ : ByteArray), .int .i64 0, .int .i64 0, .string (⟨#[]⟩ : ByteArray), .int .i64 0] 26 (0, 0))) ∧ Aside0 (Below w.heap.size w wc))
 case first =>
  have H := HC6.out
  clear HC6
  by_cases c9 : t364 ≥ 0
  ·rw [if_pos c9] at H
   have c9b0 : decide (0 ≤ t364) = true := decide_eq_true c9
   clear c9
   (first | rw [c9b0] | (simp only [i64_w, i32_w]; rw [c9b0]) | skip)
   by_cases c10 : 0 ≤ t364
   ·rw [if_pos c10] at H
    have c10b0 : decide (0 ≤ t364) = true := decide_eq_true c10
    clear c10
    by_cases c11 : t364 < (l0.length : Int)
    ·rw [if_pos c11] at H
     have c11b0 : decide (t364 < (l0.length : Int)) = true := decide_eq_true c11
     clear c11
     have H' := Aside0.mk H
     clear H
     have p365 : 0 ≤ (t364 : Int) := of_decide_eq_true (z_7)
     have q365 : t364 < (l0.length : Int) := of_decide_eq_true (z_7)
     obtain ⟨ad365, e365, hx365_0, hx365_1, hx365_2, hx365_3, hx365_4, hx365_5⟩ := at_T83 HR0.out t364 p365 q365
     cases e365
     replace hx365_0 := pw_cell_below HB.out hx365_0
     replace hx365_1 := pw_cell_below HB.out hx365_1
     replace hx365_2 := pw_cell_below HB.out hx365_2
     replace hx365_3 := pw_cell_below HB.out hx365_3
     replace hx365_4 := pw_cell_below HB.out hx365_4
     replace hx365_5 := pw_cell_below HB.out hx365_5
     replace p365 := eq_true p365
     replace q365 := eq_true q365
     go_wp2
     go_meet
     case rel => exact ⟨_, (decide (((rd_T83 l0 t364).f1) > a3)), (z_3), H', ⟨z_23⟩, ⟨z_94⟩, ⟨z_95⟩⟩
    ·rw [if_neg c11] at H
     exact absurd H (z_12)
   ·rw [if_neg c10] at H
    exact absurd H (z_12)
  ·rw [if_neg c9] at H
   have c9b0 : decide (0 ≤ t364) = false := decide_eq_false c9
   clear c9
   (first | rw [c9b0] | (simp only [i64_w, i32_w]; rw [c9b0]) | skip)
   have H' := Aside0.mk H
   clear H
   go_wp2
   go_meet
   case rel => exact ⟨_, (false), (z_3), H', ⟨z_23⟩, ⟨z_94⟩, ⟨z_95⟩⟩
 case rest =>
  clear HC6
  try clear c1
  try clear p2
  try clear p3
  try clear q3
  try clear hx3
  try clear c6
  try clear c7
  try clear c9
  try clear c9b0
  try clear c10
  try clear c10b0
  try clear c11
  try clear c11b0
  try clear hx365_0
  try clear hx365_1
  try clear hx365_2
  try clear hx365_3
  try clear hx365_4
  try clear hx365_5
  try clear p365
  try clear q365
  obtain ⟨kq, x27_5, rfl, HA, HJ5, BK363, HB⟩ := hcut
  cases kq with
  | zero => exact absurd HA.out (by simp [impl_keep.j0])
  | succ kj5 =>
   have H := HA.out
   clear HA
   simp only [impl_keep.j0] at H
   by_cases c12 : x27_5 = true
   ·subst c12
    rw [if_pos rfl] at H
    replace H := Option.bind_eq_some_iff.mp H
    obtain ⟨t366, A130, H⟩ := H
    have A13 := Aside0.mk A130
    clear A130
    by_cases c14 : 0 ≤ t364
    ·rw [if_pos c14] at H
     have c14b0 : decide (0 ≤ t364) = true := decide_eq_true c14
     clear c14
     by_cases c15 : t364 < (l0.length : Int)
     ·rw [if_pos c15] at H
      have c15b0 : decide (t364 < (l0.length : Int)) = true := decide_eq_true c15
      clear c15
      simp only [Option.some.injEq, Prod.mk.injEq] at H
      obtain ⟨rfl, rfl, rfl, rfl, rfl, rfl, rfl⟩ := H
      try go_wp2
      have n0_ := Aside0.mk (blk_drew BK363.out)
      have n1_ := Aside0.mk (below_drew1 HB.out)
      clear BK363
      clear HB
      have BK363 := n0_
      have HB := n1_
      clear n0_ n1_
      have p369 : 0 ≤ (t364 : Int) := of_decide_eq_true (z_7)
      have q369 : t364 < (l0.length : Int) := of_decide_eq_true (z_7)
      obtain ⟨ad369, e369, hx369_0, hx369_1, hx369_2, hx369_3, hx369_4, hx369_5⟩ := at_T83 HR0.out t364 p369 q369
      have hw369_5 := hx369_5
      have hw369_4 := hx369_4
      have hw369_3 := hx369_3
      have hw369_2 := hx369_2
      have hw369_1 := hx369_1
      have hw369_0 := hx369_0
      cases e369
      replace hx369_0 := pw_cell_below HB.out hx369_0
      replace hx369_1 := pw_cell_below HB.out hx369_1
      replace hx369_2 := pw_cell_below HB.out hx369_2
      replace hx369_3 := pw_cell_below HB.out hx369_3
      replace hx369_4 := pw_cell_below HB.out hx369_4
      replace hx369_5 := pw_cell_below HB.out hx369_5
      replace p369 := eq_true p369
      replace q369 := eq_true q369
      refine start_ (n := 10) (S := fun w' => w'.cell? (ad369.add ((t364).toNat * 6)) = some (.string ((rd_T83 l0 t364).f0.f0)) ∧ w'.cell? ⟨(ad369.add ((t364).toNat * 6)).block, (ad369.add ((t364).toNat * 6)).off + 1, none⟩ = some (.int .i64 ((rd_T83 l0 t364).f0.f1)) ∧ w'.cell? ⟨(ad369.add ((t364).toNat * 6)).block, (ad369.add ((t364).toNat * 6)).off + 2, none⟩ = some (.int .i64 ((rd_T83 l0 t364).f0.f2)) ∧ w'.cell? ⟨(ad369.add ((t364).toNat * 6)).block, (ad369.add ((t364).toNat * 6)).off + 3, none⟩ = some (.string ((rd_T83 l0 t364).f0.f3)) ∧ w'.cell? ⟨(ad369.add ((t364).toNat * 6)).block, (ad369.add ((t364).toNat * 6)).off + 4, none⟩ = some (.int .i64 ((rd_T83 l0 t364).f0.f4)) ∧ w'.cell? ⟨(ad369.add ((t364).toNat * 6)).block, (ad369.add ((t364).toNat * 6)).off + 5, none⟩ = some (.int .i64 ((rd_T83 l0 t364).f1))) (ds := []) #[F,F,F,F,F,F,F,F,F,F] (z_0) rfl rfl ⟨(pw_cell_below HB.out hw369_0), (pw_cell_below HB.out hw369_1), (pw_cell_below HB.out hw369_2), (pw_cell_below HB.out hw369_3), (pw_cell_below HB.out hw369_4), (pw_cell_below HB.out hw369_5)⟩ (fun hHeld => ?_); refine with_tabW impl_keep.tab3 impl_keep.bits3 (fun HT_ HW_ => ?_)
      generalize wc.drew = w16 at BK363 HB hx369_0 hx369_1 hx369_2 hx369_3 hx369_4 hx369_5 hHeld ⊢
      refine pure_ (i := 0) (N := some 28) (v := ?_) (a' := ?_) #[T,F,F,F,F,F,F,F,F,F] rfl rfl (any_of HT_.out (z_0)) (fun _ _ _ h => h) (Or.inl ⟨z_1, ?_⟩) ?_ ?_
      rotate_left
      ·intro w'
       go_simp
       with_reducible rfl
      rotate_left
      ·simp only [Act.put, List.setIfInBounds_toArray, List.set_cons_zero, List.set_cons_succ, i64_w, i32_w]
       rfl
      refine pure_ (i := 2) (N := some 30) (v := ?_) (a' := ?_) #[T,F,T,F,F,F,F,F,F,F] rfl rfl (any_of HT_.out (z_0)) (fun _ _ _ h => h) (Or.inl ⟨z_1, ?_⟩) ?_ ?_
      rotate_left
      ·intro w'
       go_simp
       with_reducible rfl
      rotate_left
      ·simp only [Act.put, List.setIfInBounds_toArray, List.set_cons_zero, List.set_cons_succ, i64_w, i32_w]
       rfl
      refine pure_ (i := 3) (N := some 31) (v := ?_) (a' := ?_) #[T,F,T,T,F,F,F,F,F,F] rfl rfl (any_of HT_.out (z_0)) (fun _ _ _ h => h) (Or.inl ⟨z_1, ?_⟩) ?_ ?_
      rotate_left
      ·intro w'
       go_simp
       with_reducible rfl
      rotate_left
      ·simp only [Act.put, List.setIfInBounds_toArray, List.set_cons_zero, List.set_cons_succ, i64_w, i32_w]
       rfl
      refine pure_ (i := 4) (N := some 32) (v := ?_) (a' := ?_) #[T,F,T,T,T,F,F,F,F,F] rfl rfl (any_of HT_.out (z_0)) (fun _ _ _ h => h) (Or.inl ⟨z_1, ?_⟩) ?_ ?_
      rotate_left
      ·intro w'
       go_simp
       with_reducible rfl
      rotate_left
      ·simp only [Act.put, List.setIfInBounds_toArray, List.set_cons_zero, List.set_cons_succ, i64_w, i32_w]
       rfl
      refine pure_ (i := 5) (N := some 33) (v := ?_) (a' := ?_) #[T,F,T,T,T,T,F,F,F,F] rfl rfl (any_of HT_.out (z_0)) (fun _ _ _ h => h) (Or.inl ⟨z_1, ?_⟩) ?_ ?_
      rotate_left
      ·intro w'
       go_simp
       with_reducible rfl
      rotate_left
      ·simp only [Act.put, List.setIfInBounds_toArray, List.set_cons_zero, List.set_cons_succ, i64_w, i32_w]
       rfl
      refine take_ (i := 6) (N := some 34) (v := ?_) (a' := ?_) #[T,F,T,T,T,T,T,F,F,F] rfl rfl (take_ofW HT_.out HW_.out (z_0)) (fun _ _ _ h => h) (Or.inl ⟨z_1, ?_⟩) hHeld ?_ ?_
      rotate_left
      ·rintro w' ⟨s0, s1, s2, s3, s4, s5⟩
       go_simp
       with_reducible rfl
      rotate_left
      ·simp only [Act.put, List.setIfInBounds_toArray, List.set_cons_zero, List.set_cons_succ, i64_w, i32_w]
       rfl
      refine one_ (i := 1) (N := some 29) #[T,T,T,T,T,T,T,F,F,F] rfl rfl (one_of HT_.out (z_0)) (z_5) (fun K hK => ?_)
      refine goes_ Try.func75 (z_0) rfl #[.slice (some ad369) l0.length c0] (z_1) rfl rfl (z_14) ?_
      with_reducible refine (impl_Kept_75.calls _ _ l0 t366 _ ?side1 ?side2 A13.out).mono ?_
      (case side1 => exact z_56)
      (case side2 => exact HC0.out)
      rintro e w17 ⟨v367, rfl, ho0, hb⟩
      refine ⟨_, rfl, ?_⟩
      have n0_ := Aside0.mk (Kd.R_lower ho0 (below_size (z_95)))
      have n1_ := Aside0.mk (blk_below (g := gb363) (o := .cells #[.string (⟨#[]⟩ : ByteArray), .int .i64 0, .int .i64 0, .string (⟨#[]⟩ : ByteArray), .int .i64 0] 26 (0, 0)) (z_94) hb)
      have n2_ := Aside0.mk (below_step (z_95) hb)
      clear BK363
      clear HB
      have HO368 := n0_
      have BK363 := n1_
      have HB := n2_
      clear n0_ n1_ n2_
      (try clear hb)
      (try clear hb2)
      (try clear hk)
      (try clear hi)
      (try clear ho0)
      refine hK.out _ _ ⟨(pw_cell_below HB.out hw369_0), (pw_cell_below HB.out hw369_1), (pw_cell_below HB.out hw369_2), (pw_cell_below HB.out hw369_3), (pw_cell_below HB.out hw369_4), (pw_cell_below HB.out hw369_5)⟩ (fun hHeld => ?_)
      clear hK K
      refine norm_ (a' := ?_) ?_ ?_
      rotate_left
      ·show Act.put _ (some 29) _ = _
       simp only [Act.put, List.setIfInBounds_toArray, List.set_cons_zero, List.set_cons_succ, i64_w, i32_w]
       rfl
      refine pure_ (i := 7) (N := some 8) (v := ?_) (a' := ?_) #[T,T,T,T,T,T,T,T,F,F] rfl rfl (any_of HT_.out (z_0)) (fun _ _ _ h => h) (Or.inl ⟨z_1, ?_⟩) ?_ ?_
      rotate_left
      ·intro w'
       go_simp
       with_reducible rfl
      rotate_left
      ·simp only [Act.put, List.setIfInBounds_toArray, List.set_cons_zero, List.set_cons_succ, i64_w, i32_w]
       rfl
      refine one_ (i := 8) (N := none) #[T,T,T,T,T,T,T,T,T,F] rfl rfl (one_of HT_.out (z_0)) (z_5) (fun K hK => ?_)
      have hs18 : w17.cell? ⟨gb363, 0, none⟩ = some (.string (⟨#[]⟩ : ByteArray)) := (blk_cell BK363.out 0).trans rfl
      have hfs18 := blk_frozen BK363.out 0
      have hs19 : w17.cell? ⟨gb363, 1, none⟩ = some (.int .i64 0) := (blk_cell BK363.out 1).trans rfl
      have hfs19 := blk_frozen BK363.out 1
      have hs20 : w17.cell? ⟨gb363, 2, none⟩ = some (.int .i64 0) := (blk_cell BK363.out 2).trans rfl
      have hfs20 := blk_frozen BK363.out 2
      have hs21 : w17.cell? ⟨gb363, 3, none⟩ = some (.string (⟨#[]⟩ : ByteArray)) := (blk_cell BK363.out 3).trans rfl
      have hfs21 := blk_frozen BK363.out 3
      have hs22 : w17.cell? ⟨gb363, 4, none⟩ = some (.int .i64 0) := (blk_cell BK363.out 4).trans rfl
      have hfs22 := blk_frozen BK363.out 4
      refine skip_ (w1 := ?_) (z_1) rfl ?_ ?_
      rotate_left
      ·go_simp
       rfl
      refine hK.out _ _ ⟨((cell_far (p := ⟨gb363, _, none⟩) (z_97) _).trans (((cell_far (p := ⟨gb363, _, none⟩) (z_97) _).trans (((cell_far (p := ⟨gb363, _, none⟩) (z_97) _).trans (((cell_far (p := ⟨gb363, _, none⟩) (z_97) _).trans (((cell_far (p := ⟨gb363, _, none⟩) (z_97) _).trans (hHeld.1)))))))))), ((cell_far (p := ⟨gb363, _, none⟩) (z_99) _).trans (((cell_far (p := ⟨gb363, _, none⟩) (z_99) _).trans (((cell_far (p := ⟨gb363, _, none⟩) (z_99) _).trans (((cell_far (p := ⟨gb363, _, none⟩) (z_99) _).trans (((cell_far (p := ⟨gb363, _, none⟩) (z_99) _).trans (hHeld.2.1)))))))))), ((cell_far (p := ⟨gb363, _, none⟩) (z_101) _).trans (((cell_far (p := ⟨gb363, _, none⟩) (z_101) _).trans (((cell_far (p := ⟨gb363, _, none⟩) (z_101) _).trans (((cell_far (p := ⟨gb363, _, none⟩) (z_101) _).trans (((cell_far (p := ⟨gb363, _, none⟩) (z_101) _).trans (hHeld.2.2.1)))))))))), ((cell_far (p := ⟨gb363, _, none⟩) (z_103) _).trans (((cell_far (p := ⟨gb363, _, none⟩) (z_103) _).trans (((cell_far (p := ⟨gb363, _, none⟩) (z_103) _).trans (((cell_far (p := ⟨gb363, _, none⟩) (z_103) _).trans (((cell_far (p := ⟨gb363, _, none⟩) (z_103) _).trans (hHeld.2.2.2.1)))))))))), ((cell_far (p := ⟨gb363, _, none⟩) (z_105) _).trans (((cell_far (p := ⟨gb363, _, none⟩) (z_105) _).trans (((cell_far (p := ⟨gb363, _, none⟩) (z_105) _).trans (((cell_far (p := ⟨gb363, _, none⟩) (z_105) _).trans (((cell_far (p := ⟨gb363, _, none⟩) (z_105) _).trans (hHeld.2.2.2.2.1)))))))))), ((cell_far (p := ⟨gb363, _, none⟩) (z_107) _).trans (((cell_far (p := ⟨gb363, _, none⟩) (z_107) _).trans (((cell_far (p := ⟨gb363, _, none⟩) (z_107) _).trans (((cell_far (p := ⟨gb363, _, none⟩) (z_107) _).trans (((cell_far (p := ⟨gb363, _, none⟩) (z_107) _).trans (hHeld.2.2.2.2.2))))))))))⟩ (fun hHeld => ?_)
      clear hK K
      refine pure_ (i := 9) (N := some 10) (v := ?_) (a' := ?_) #[T,T,T,T,T,T,T,T,T,T] rfl rfl (any_of HT_.out (z_0)) (fun _ _ _ h => h) (Or.inl ⟨z_1, ?_⟩) ?_ ?_
      rotate_left
      ·intro w'
       go_simp
       with_reducible rfl
      rotate_left
      ·simp only [Act.put, List.setIfInBounds_toArray, List.set_cons_zero, List.set_cons_succ, i64_w, i32_w]
       rfl
      refine done_ (done_of HT_.out (z_0)) ?_
      try go_wp2
      refine bodyPost_ret (results_list (rs := [.tmp 8, .cell 9 26, .tmp 10]) rfl (z_12) (.tmp (.cell gb363 26 #[.string ((rd_T83 l0 t364).f0.f0), .int .i64 ((rd_T83 l0 t364).f0.f1), .int .i64 ((rd_T83 l0 t364).f0.f2), .string ((rd_T83 l0 t364).f0.f3), .int .i64 ((rd_T83 l0 t364).f0.f4)] (0, 0) _ rfl (by (with_reducible repeat (first | refine blk_drewN ?_ _ | refine blk_drew ?_ | refine blk_alloc ?_ _)); refine blk_put (cs := #[.string ((rd_T83 l0 t364).f0.f0), .int .i64 ((rd_T83 l0 t364).f0.f1), .int .i64 ((rd_T83 l0 t364).f0.f2), .string ((rd_T83 l0 t364).f0.f3), .int .i64 0]) ?_ 4 _ rfl; (with_reducible repeat (first | refine blk_drewN ?_ _ | refine blk_drew ?_ | refine blk_alloc ?_ _)); refine blk_put (cs := #[.string ((rd_T83 l0 t364).f0.f0), .int .i64 ((rd_T83 l0 t364).f0.f1), .int .i64 ((rd_T83 l0 t364).f0.f2), .string (⟨#[]⟩ : ByteArray), .int .i64 0]) ?_ 3 _ rfl; (with_reducible repeat (first | refine blk_drewN ?_ _ | refine blk_drew ?_ | refine blk_alloc ?_ _)); refine blk_put (cs := #[.string ((rd_T83 l0 t364).f0.f0), .int .i64 ((rd_T83 l0 t364).f0.f1), .int .i64 0, .string (⟨#[]⟩ : ByteArray), .int .i64 0]) ?_ 2 _ rfl; (with_reducible repeat (first | refine blk_drewN ?_ _ | refine blk_drew ?_ | refine blk_alloc ?_ _)); refine blk_put (cs := #[.string ((rd_T83 l0 t364).f0.f0), .int .i64 0, .int .i64 0, .string (⟨#[]⟩ : ByteArray), .int .i64 0]) ?_ 1 _ rfl; (with_reducible repeat (first | refine blk_drewN ?_ _ | refine blk_drew ?_ | refine blk_alloc ?_ _)); refine blk_put (cs := #[.string (⟨#[]⟩ : ByteArray), .int .i64 0, .int .i64 0, .string (⟨#[]⟩ : ByteArray), .int .i64 0]) ?_ 0 _ rfl; (with_reducible repeat (first | refine blk_drewN ?_ _ | refine blk_drew ?_ | refine blk_alloc ?_ _)); exact BK363.out) Try.underlying26 rfl (z_0) (.tmp .nil)))) rfl ?_
      exact ⟨_, z_13, by (with_reducible repeat (first | apply Kd.R_alloc | apply Kd.R_drewN | apply Kd.R_drew)); exact Kd.R_mono (Kd.R_far (p := ⟨gb363, 4, none⟩) (Kd.R_far (p := ⟨gb363, 3, none⟩) (Kd.R_far (p := ⟨gb363, 2, none⟩) (Kd.R_far (p := ⟨gb363, 1, none⟩) (Kd.R_far (p := ⟨gb363, 0, none⟩) (Kd.R_types HO368.out BK363.out (z_5)) (fun _ hk => hk.2) (.string ((rd_T83 l0 t364).f0.f0))) (fun _ hk => hk.2) (.int .i64 ((rd_T83 l0 t364).f0.f1))) (fun _ hk => hk.2) (.int .i64 ((rd_T83 l0 t364).f0.f2))) (fun _ hk => hk.2) (.string ((rd_T83 l0 t364).f0.f3))) (fun _ hk => hk.2) (.int .i64 ((rd_T83 l0 t364).f0.f4))) (fun _ hk => trivial), z_95⟩
     ·rw [if_neg c15] at H
      exact absurd H (z_12)
    ·rw [if_neg c14] at H
     exact absurd H (z_12)
   ·replace c12 := Bool.eq_false_iff.mpr c12
    subst c12
    rw [if_neg (show ¬ (false = true) by decide)] at H
    replace H := Option.bind_eq_some_iff.mp H
    obtain ⟨⟨t370, t371, t372, t373, t374⟩, A230, H⟩ := H
    replace H : ((impl_Kept_84.f l0).bind fun t376 => (if t364 ≥ 0 then ((impl_Kept_85.f kj5 t376 t364 (wrap64 (t364 + 1))).bind fun t379 => (if t379.length < 2199023255552 then ((some (t379 ++ [(⟨(⟨t370, t371, t372, t373, t374⟩ : S26), wrap64 (a3 + t374)⟩ : S83)] : List (S83))).bind fun y382 => (if 0 ≤ (mx 0 (wrap64 ((y382.length : Int) - 5))) then (if (mx 0 (wrap64 ((y382.length : Int) - 5))) ≤ (y382.length : Int) then ((impl_Kept_75.f (y382.drop ((mx 0 (wrap64 ((y382.length : Int) - 5))) : Int).toNat)).bind fun t389 => (some (t389, t370, t371, t372, t373, t374, false))) else (none)) else (none))) else (none))) else (if t376.length < 2199023255552 then ((some (t376 ++ [(⟨(⟨t370, t371, t372, t373, t374⟩ : S26), wrap64 (a3 + t374)⟩ : S83)] : List (S83))).bind fun y392 => (if 0 ≤ (mx 0 (wrap64 ((y392.length : Int) - 5))) then (if (mx 0 (wrap64 ((y392.length : Int) - 5))) ≤ (y392.length : Int) then ((impl_Kept_75.f (y392.drop ((mx 0 (wrap64 ((y392.length : Int) - 5))) : Int).toNat)).bind fun t399 => (some (t399, t370, t371, t372, t373, t374, false))) else (none)) else (none))) else (none)))) = some (r1, r2, r3, r4, r5, r6, r7) := H
    have A23 := Aside0.mk A230
    clear A230
    replace H := Option.bind_eq_some_iff.mp H
    obtain ⟨t376, A240, H⟩ := H
    have A24 := Aside0.mk A240
    clear A240
    by_cases c25 : t364 ≥ 0
    ·rw [if_pos c25] at H
     have c25b0 : decide (0 ≤ t364) = true := decide_eq_true c25
     clear c25
     replace H := Option.bind_eq_some_iff.mp H
     obtain ⟨t379, A260, H⟩ := H
     have A26 := Aside0.mk A260
     clear A260
     by_cases c27 : t379.length < 2199023255552
     ·rw [if_pos c27] at H
      have LMc27 := Aside0.mk c27
      clear c27
      obtain ⟨y382, hy382⟩ : ∃ y_ : List (S83), y_ = (t379 ++ [(⟨(⟨t370, t371, t372, t373, t374⟩ : S26), wrap64 (a3 + t374)⟩ : S83)]) := ⟨_, rfl⟩
      replace H : (if 0 ≤ (mx 0 (wrap64 ((y382.length : Int) - 5))) then (if (mx 0 (wrap64 ((y382.length : Int) - 5))) ≤ (y382.length : Int) then ((impl_Kept_75.f (y382.drop ((mx 0 (wrap64 ((y382.length : Int) - 5))) : Int).toNat)).bind fun t389 => (some (t389, t370, t371, t372, t373, t374, false))) else (none)) else (none)) = some (r1, r2, r3, r4, r5, r6, r7) := by first | (rw [hy382]; with_reducible exact H) | (have H2_ := (Option.bind_some _ _).symm.trans H; rw [hy382]; with_reducible exact H2_) | (have H2_ := (Option.bind_some _ _).symm.trans H; with_reducible exact H2_) | with_reducible exact H | (rw [hy382]; exact H) | exact H
      have Ny382 := Aside0.mk hy382
      clear hy382
      obtain ⟨ji28, hji28⟩ : ∃ j_ : Int, (mx 0 (wrap64 ((y382.length : Int) - 5))) = j_ := ⟨_, rfl⟩
      replace H : (if 0 ≤ (ji28) then (if (ji28) ≤ (y382.length : Int) then ((impl_Kept_75.f (y382.drop ((ji28) : Int).toNat)).bind fun t389 => (some (t389, t370, t371, t372, t373, t374, false))) else (none)) else (none)) = some (r1, r2, r3, r4, r5, r6, r7) := by first | (rw [hji28] at H; exact H) | (simp only [hji28] at H ⊢; exact H)
      (try rw [hji28] at A23)
      (try rw [hji28] at A24)
      (try rw [hji28] at A26)
      (try (have hji28l : 0 ≤ ji28 := by (rw [← hji28]; unfold mx; (repeat' split) <;> omega)))
      (try (have hji28m : 0 ≤ ji28 := z_6))
      have hji28_ : (if 0 < (wrap64 ((y382.length : Int) - 5)) then (wrap64 ((y382.length : Int) - 5)) else 0) = ji28 := hji28
      by_cases c29 : 0 ≤ (ji28)
      ·rw [if_pos c29] at H
       have c29b0 := eq_true c29
       have c29b1 : decide (0 ≤ (ji28)) = true := decide_eq_true c29
       clear c29
       by_cases c30 : (ji28) ≤ (y382.length : Int)
       ·rw [if_pos c30] at H
        have c30b0 := eq_true c30
        have c30b1 : decide ((ji28) ≤ (y382.length : Int)) = true := decide_eq_true c30
        clear c30
        obtain ⟨y385, hy385⟩ : ∃ y_ : List (S83), y_ = (y382.drop ((ji28) : Int).toNat) := ⟨_, rfl⟩
        replace H : ((impl_Kept_75.f y385).bind fun t389 => (some (t389, t370, t371, t372, t373, t374, false))) = some (r1, r2, r3, r4, r5, r6, r7) := by first | (rw [hy385]; with_reducible exact H) | (have H2_ := (Option.bind_some _ _).symm.trans H; rw [hy385]; with_reducible exact H2_) | (have H2_ := (Option.bind_some _ _).symm.trans H; with_reducible exact H2_) | with_reducible exact H | (rw [hy385]; exact H) | exact H
        have Ny385 := Aside0.mk hy385
        clear hy385
        replace H := Option.bind_eq_some_iff.mp H
        obtain ⟨t389, A310, H⟩ := H
        have A31 := Aside0.mk A310
        clear A310
        simp only [Option.some.injEq, Prod.mk.injEq] at H
        obtain ⟨rfl, rfl, rfl, rfl, rfl, rfl, rfl⟩ := H
        try go_wp2_with (first | ((with_reducible refine gate_callee (f := 63) rfl ?_); refine goesL_ (some 37) rfl rfl Try.func63 (z_0) rfl #[.slice A1 l1.length c1, .string a2] rfl (z_14) ?_; (with_reducible refine (impl_ask.calls kj5 _ _ l1 a2 t370 t371 t372 t373 t374 _ ?side1 ?side2 A23.out).mono ?_); (case side1 => exact z_60); (case side2 => exact HC1.out); rintro e w32 ⟨rfl, hb⟩; refine ⟨_, rfl, ?_⟩; have n0_ := Aside0.mk (blk_below (g := gb363) (o := .cells #[.string (⟨#[]⟩ : ByteArray), .int .i64 0, .int .i64 0, .string (⟨#[]⟩ : ByteArray), .int .i64 0] 26 (0, 0)) (z_94) hb); have n1_ := Aside0.mk (below_step (z_95) hb); clear BK363; clear HB; have BK363 := n0_; have HB := n1_; clear n0_ n1_; (try clear hb); (try clear hb2); (try clear hk); (try clear hi)) | ((with_reducible refine gate_dst (N := 12) rfl ?_); refine box_event ?hg (N := 12) ?hd (cs := #[.string (⟨#[]⟩ : ByteArray), .int .i64 0, .int .i64 0, .string (⟨#[]⟩ : ByteArray), .int .i64 0]) (t := 26) ?hr ?_; (case hd => rfl); (case hg => rfl); (case hr => exact z_9); intro gb375 hg w33 hbox hb; have n0_ := Aside0.mk (blk_below (g := gb363) (o := .cells #[.string (⟨#[]⟩ : ByteArray), .int .i64 0, .int .i64 0, .string (⟨#[]⟩ : ByteArray), .int .i64 0] 26 (0, 0)) (z_94) hb); have n1_ := Aside0.mk (below_step (z_95) hb); have n2_ := Aside0.mk (hbox); have n3_ := Aside0.mk ((z_108 : w.heap.size ≤ gb375)); have n4_ := Aside0.mk ((z_108 : w.heap.size ≤ gb375)); have n5_ := Aside0.mk ((z_109 : gb363 ≠ gb375)); have n6_ := Aside0.mk ((z_110 : gb375 ≠ gb363)); clear BK363; clear HB; have BK363 := n0_; have HB := n1_; have BK375 := n2_; have GW375 := n3_; have GE375 := n4_; have NB363_375 := n5_; have NB375_363 := n6_; clear n0_ n1_ n2_ n3_ n4_ n5_ n6_; clear hb hbox hg; have hnb34 := NB375_363.out; have hnc34 := NB363_375.out; have hcz35_0 : w33.cell? ⟨gb375, 0, none⟩ = some (.string (⟨#[]⟩ : ByteArray)) := (blk_cell BK375.out 0).trans rfl; have hcz35_1 : w33.cell? ⟨gb375, 1, none⟩ = some (.int .i64 0) := (blk_cell BK375.out 1).trans rfl; have hcz35_2 : w33.cell? ⟨gb375, 2, none⟩ = some (.int .i64 0) := (blk_cell BK375.out 2).trans rfl; have hcz35_3 : w33.cell? ⟨gb375, 3, none⟩ = some (.string (⟨#[]⟩ : ByteArray)) := (blk_cell BK375.out 3).trans rfl; have hcz35_4 : w33.cell? ⟨gb375, 4, none⟩ = some (.int .i64 0) := (blk_cell BK375.out 4).trans rfl; have hfz35_0 := blk_frozen BK375.out 0; have hfz35_1 := blk_frozen BK375.out 1; have hfz35_2 := blk_frozen BK375.out 2; have hfz35_3 := blk_frozen BK375.out 3; have hfz35_4 := blk_frozen BK375.out 4) | ((with_reducible refine gate_callee (f := 84) rfl ?_); refine goesL_ (some 39) rfl rfl Try.func84 (z_0) rfl #[.slice A0 l0.length c0] rfl (z_14) ?_; (with_reducible refine (impl_Kept_84.calls _ _ l0 t376 _ ?side1 ?side2 A24.out).mono ?_); (case side1 => exact z_112); (case side2 => exact HC0.out); rintro e w36 ⟨v377, rfl, ho0, hb⟩; refine ⟨_, rfl, ?_⟩; have n0_ := Aside0.mk (Kd.R_lower ho0 (below_size (z_111))); have n1_ := Aside0.mk (blk_below (g := gb363) (o := .cells #[.string (⟨#[]⟩ : ByteArray), .int .i64 0, .int .i64 0, .string (⟨#[]⟩ : ByteArray), .int .i64 0] 26 (0, 0)) (z_113) hb); have n2_ := Aside0.mk (blk_below (g := gb375) (o := .cells #[.string t370, .int .i64 t371, .int .i64 t372, .string t373, .int .i64 t374] 26 (0, 0)) (z_114) hb); have n3_ := Aside0.mk (below_step (z_111) hb); clear BK363; clear BK375; clear HB; have HO378 := n0_; have BK363 := n1_; have BK375 := n2_; have HB := n3_; clear n0_ n1_ n2_ n3_; (try clear hb); (try clear hb2); (try clear hk); (try clear hi); (try clear ho0); obtain ⟨Ao37, co37, eo37⟩ := Kd.R_slice HO378.out; subst eo37) | ((with_reducible refine gate_callee (f := 85) rfl ?_); refine goesL_ (some 46) rfl rfl Try.func85 (z_0) rfl #[.slice Ao37 t376.length co37, .int .i64 t364, .int .i64 (wrap64 (t364 + 1))] rfl (z_14) ?_; (with_reducible refine (impl_Kept_85.calls kj5 (fun k_ => some k_ = (.slice Ao37 t376.length co37 : Value).ownBlock) (.slice Ao37 t376.length co37) t376 t364 (wrap64 (t364 + 1)) t379 w _ ?side1 ?side2 A26.out).mono ?_); (case side1 => exact z_111); (case side2 => exact Kd.R_tight rfl HO378.out); rintro e w38 ⟨v380, rfl, ho0, hb, hkp⟩; refine ⟨_, rfl, ?_⟩; have n0_ := Aside0.mk (blk_kept (z_94) hkp (fun hs_ => (fun e_ => (Kd.R_ne HO378.out BK363.out (z_5)) e_) hs_)); have n1_ := Aside0.mk (blk_kept (z_115) hkp (fun hs_ => (fun e_ => (Kd.R_ne HO378.out BK375.out (z_5)) e_) hs_)); have n2_ := Aside0.mk (Kd.R_mono (ok' := fun k_ => True) ho0 (fun k_ hk_ => trivial)); have n3_ := Aside0.mk (hb); clear BK363; clear BK375; clear HB; clear HO378; have BK363 := n0_; have BK375 := n1_; have HO381 := n2_; have HB := n3_; clear n0_ n1_ n2_ n3_; (try clear hb); (try clear hkp); (try clear ho0); have hcz39_0 : w38.cell? ⟨gb375, 0, none⟩ = some (.string t370) := (blk_cell BK375.out 0).trans rfl; have hcz39_1 : w38.cell? ⟨gb375, 1, none⟩ = some (.int .i64 t371) := (blk_cell BK375.out 1).trans rfl; have hcz39_2 : w38.cell? ⟨gb375, 2, none⟩ = some (.int .i64 t372) := (blk_cell BK375.out 2).trans rfl; have hcz39_3 : w38.cell? ⟨gb375, 3, none⟩ = some (.string t373) := (blk_cell BK375.out 3).trans rfl; have hcz39_4 : w38.cell? ⟨gb375, 4, none⟩ = some (.int .i64 t374) := (blk_cell BK375.out 4).trans rfl; have hfz39_0 := blk_frozen BK375.out 0; have hfz39_1 := blk_frozen BK375.out 1; have hfz39_2 := blk_frozen BK375.out 2; have hfz39_3 := blk_frozen BK375.out 3; have hfz39_4 := blk_frozen BK375.out 4) | ((with_reducible refine gate_builtin (b := .append) (xs := #[.tmp 47, .tmp 54]) rfl ?_); at_builtin; refine Kd.R_append k83 (w0 := w) w.heap.size rfl (.tmp 47) (.tmp 54) 48 83 (.agg #[(.string ⟨#[]⟩), (.int .i64 0), (.int .i64 0), (.string ⟨#[]⟩), (.int .i64 0), (.int .i64 0)]) 64 rfl Try.underlying48 info83 rfl (z_5) (z_6) v380 t379 (⟨(⟨t370, t371, t372, t373, t374⟩ : S26), wrap64 (a3 + t374)⟩ : S83) [.string t370, .int .i64 t371, .int .i64 t372, .string t373, .int .i64 t374, .int .i64 (wrap64 (a3 + t374))] (fun _ => True) (fun _ => False) rfl rfl ?aP (fun _ hk => hk.elim) ?aF ?aO ?aB ?aS ?aL ?_; (case aP => exact k83_mkM _ _ _ (⟨(⟨t370, t371, t372, t373, t374⟩ : S26), wrap64 (a3 + t374)⟩ : S83)); (case aB => exact z_116); (case aF => exact z_52); (case aO => exact (by (with_reducible repeat (first | apply Kd.R_alloc | apply Kd.R_drewN | apply Kd.R_drew)); exact HO381.out)); (case aS => exact z_117); (case aL => have := LMc27.out; omega); intro v383 w40 ho hb hg hat; rw [← Ny382.out] at ho; have n0_ := Aside0.mk (blk_grown (g := gb363) (o := .cells #[.string (⟨#[]⟩ : ByteArray), .int .i64 0, .int .i64 0, .string (⟨#[]⟩ : ByteArray), .int .i64 0] 26 (0, 0)) (z_94) hg (Kd.R_ne HO381.out BK363.out (z_5))); have n1_ := Aside0.mk (blk_grown (g := gb375) (o := .cells #[.string t370, .int .i64 t371, .int .i64 t372, .string t373, .int .i64 t374] 26 (0, 0)) (z_115) hg (Kd.R_ne HO381.out BK375.out (z_5))); have n2_ := Aside0.mk (hb); have n3_ := Aside0.mk (ho); clear BK363; clear BK375; clear HB; clear HO381; have BK363 := n0_; have BK375 := n1_; have HB := n2_; have HO384 := n3_; clear n0_ n1_ n2_ n3_; clear ho hb hg hat))
        have n0_ := Aside0.mk (Kd.R_drew HO384.out)
        have n1_ := Aside0.mk (blk_drew BK363.out)
        have n2_ := Aside0.mk (blk_drew BK375.out)
        have n3_ := Aside0.mk (below_drew1 HB.out)
        clear HO384
        clear BK363
        clear BK375
        clear HB
        have HO384 := n0_
        have BK363 := n1_
        have BK375 := n2_
        have HB := n3_
        clear n0_ n1_ n2_ n3_
        obtain ⟨Ao42, co42, eo42⟩ := Kd.R_slice HO384.out
        (first | subst eo42 | (injection eo42 with f1_ f2_ f3_; have f4_ := f1_.symm; have f5_ := f3_.symm; clear f1_ f2_ f3_; subst f4_; subst f5_))
        have q43 : ((ji28) : Int) ≤ ((y382.length : Int) : Int) := of_decide_eq_true (z_7)
        obtain ⟨i043, hi043, _, hsz43, _⟩ := info_parts info83
        have hroom43 : y382.length ≤ co42 := (Kd.R_reads' HO384.out).2.1
        have hC43 : Kd.C k83 _ Ao42 y382.length y382 := (Kd.R_reads' HO384.out).2.2
        have q043 : (0 : Int) ≤ ((ji28) : Int) := of_decide_eq_true (z_7)
        have hcut43 := cut_from (P := Try.prog) 48 83 .i64 Try.underlying48 hi043 6 hsz43 Ao42 y382.length co42 (ji28) q043 q43
        have hr43 := Kd.C_drop (m := ((ji28) : Int).toNat) (c := co42) hC43 (z_6) hroom43
        obtain ⟨A43, hA43⟩ : ∃ A1, A1 = (if co42 = ((ji28) : Int).toNat then Ao42 else (Ao42 : Option Addr).map (·.add (((ji28) : Int).toNat * 6))) := ⟨_, rfl⟩
        obtain ⟨c43, hc43⟩ : ∃ c1, c1 = co42 - ((ji28) : Int).toNat := ⟨_, rfl⟩
        have hy43 : y385.length = y382.length - ((ji28) : Int).toNat := (by rw [Ny385.out, List.length_drop] <;> omega)
        rw [show (y382).drop ((ji28) : Int).toNat = y385 from Ny385.out.symm] at hr43
        replace hr43 : Kd.C k83 _ A43 y385.length y385 := (by rw [hA43]; exact hr43)
        rw [← hy43, ← hA43, ← hc43] at hcut43
        have HR388 := Aside0.mk hr43
        have HC388 := Aside0.mk (show y385.length ≤ c43 from by rw [hy43, hc43]; exact Nat.sub_le_sub_right hroom43 _)
        clear hr43 hC43 hroom43 hi043 hsz43 hc43
        have KY43 := Aside0.mk hy43
        have KA43 := Aside0.mk hA43
        clear hy43 hA43
        have KL43 := Aside0.mk (show ((ji28) : Int).toNat ≤ y382.length from z_6)
        replace q43 := eq_true q43
        refine start_ (n := 11) (S := fun w' => w'.cell? ⟨gb375, 0, none⟩ = some (.string t370) ∧ w'.cell? ⟨gb375, 1, none⟩ = some (.int .i64 t371) ∧ w'.cell? ⟨gb375, 2, none⟩ = some (.int .i64 t372) ∧ w'.cell? ⟨gb375, 3, none⟩ = some (.string t373) ∧ w'.cell? ⟨gb375, 4, none⟩ = some (.int .i64 t374)) (ds := []) #[F,F,F,F,F,F,F,F,F,F,F] (z_0) rfl rfl ⟨(blk_cell BK375.out 0).trans rfl, (blk_cell BK375.out 1).trans rfl, (blk_cell BK375.out 2).trans rfl, (blk_cell BK375.out 3).trans rfl, (blk_cell BK375.out 4).trans rfl⟩ (fun hHeld => ?_); refine with_tabW impl_keep.tab9 impl_keep.bits9 (fun HT_ HW_ => ?_)
        generalize w40.drew = w41 at HO384 BK363 BK375 HB HR388 hHeld ⊢
        refine pure_ (i := 0) (N := some 56) (v := ?_) (a' := ?_) #[T,F,F,F,F,F,F,F,F,F,F] rfl rfl (any_of HT_.out (z_0)) (fun _ _ _ h => h) (Or.inl ⟨z_1, ?_⟩) ?_ ?_
        rotate_left
        ·intro w'
         go_simp
         with_reducible rfl
        rotate_left
        ·simp only [Act.put, List.setIfInBounds_toArray, List.set_cons_zero, List.set_cons_succ, i64_w, i32_w]
         rfl
        refine pure_ (i := 1) (N := some 57) (v := ?_) (a' := ?_) #[T,T,F,F,F,F,F,F,F,F,F] rfl rfl (any_of HT_.out (z_0)) (fun _ _ _ h => h) (Or.inl ⟨z_1, ?_⟩) ?_ ?_
        rotate_left
        ·intro w'
         go_simp
         with_reducible rfl
        rotate_left
        ·simp only [Act.put, List.setIfInBounds_toArray, List.set_cons_zero, List.set_cons_succ, i64_w, i32_w]
         rfl
        refine pure_ (i := 2) (N := some 58) (v := ?_) (a' := ?_) #[T,T,T,F,F,F,F,F,F,F,F] rfl rfl (any_of HT_.out (z_0)) (fun _ _ _ h => h) (Or.inl ⟨z_1, ?_⟩) ?_ ?_
        rotate_left
        ·intro w'
         go_simp
         with_reducible rfl
        rotate_left
        ·simp only [Act.put, List.setIfInBounds_toArray, List.set_cons_zero, List.set_cons_succ, i64_w, i32_w]
         rfl
        refine pure_ (i := 3) (N := some 59) (v := ?_) (a' := ?_) #[T,T,T,T,F,F,F,F,F,F,F] rfl rfl (any_of HT_.out (z_0)) (fun _ _ _ h => h) (Or.inl ⟨z_1, ?_⟩) ?_ ?_
        rotate_left
        ·intro w'
         go_simp
         with_reducible rfl
        rotate_left
        ·simp only [Act.put, List.setIfInBounds_toArray, List.set_cons_zero, List.set_cons_succ, i64_w, i32_w]
         rfl
        refine pure_ (i := 4) (N := some 60) (v := ?_) (a' := ?_) #[T,T,T,T,T,F,F,F,F,F,F] rfl rfl (any_of HT_.out (z_0)) (fun _ _ _ h => h) (Or.inl ⟨z_1, ?_⟩) ?_ ?_
        rotate_left
        ·intro w'
         go_simp
         with_reducible rfl
        rotate_left
        ·simp only [Act.put, List.setIfInBounds_toArray, List.set_cons_zero, List.set_cons_succ, i64_w, i32_w]
         rfl
        refine pure_ (i := 5) (N := some 61) (v := ?_) (a' := ?_) #[T,T,T,T,T,T,F,F,F,F,F] rfl rfl (any_of HT_.out (z_0)) (fun _ _ _ h => h) (Or.inl ⟨z_1, ?_⟩) ?_ ?_
        rotate_left
        ·intro w'
         go_simp
         with_reducible rfl
        rotate_left
        ·simp only [Act.put, List.setIfInBounds_toArray, List.set_cons_zero, List.set_cons_succ, i64_w, i32_w]
         rfl
        refine take_ (i := 7) (N := some 63) (v := ?_) (a' := ?_) #[T,T,T,T,T,T,F,T,F,F,F] rfl rfl (take_ofW HT_.out HW_.out (z_0)) (fun _ _ _ h => h) (Or.inl ⟨z_1, ?_⟩) hHeld ?_ ?_
        rotate_left
        ·rintro w' ⟨s0, s1, s2, s3, s4⟩
         go_simp
         with_reducible rfl
        rotate_left
        ·simp only [Act.put, List.setIfInBounds_toArray, List.set_cons_zero, List.set_cons_succ, i64_w, i32_w]
         rfl
        refine one_ (i := 6) (N := some 62) #[T,T,T,T,T,T,T,T,F,F,F] rfl rfl (one_of HT_.out (z_0)) (z_5) (fun K hK => ?_)
        refine goes_ Try.func75 (z_0) rfl #[.slice A43 y385.length c43] (z_1) rfl rfl (z_14) ?_
        with_reducible refine (impl_Kept_75.calls _ _ y385 t389 _ ?side1 ?side2 A31.out).mono ?_
        (case side1 => repeat (first | exact (z_118) | (with_reducible refine Kd.C_alloc ?_ _) | (with_reducible refine Kd.C_drewN ?_ _) | (with_reducible refine Kd.C_drew ?_)))
        (case side2 => exact HC388.out)
        rintro e w44 ⟨v390, rfl, ho0, hb⟩
        refine ⟨_, rfl, ?_⟩
        have n0_ := Aside0.mk (Kd.R_elder' (z_119) (Kd.R_base ho0) hb)
        have n1_ := Aside0.mk (Kd.R_lower (Kd.R_new' ho0 (Kd.R_lt (z_119))) (below_size (z_111)))
        have n2_ := Aside0.mk (blk_below (g := gb363) (o := .cells #[.string (⟨#[]⟩ : ByteArray), .int .i64 0, .int .i64 0, .string (⟨#[]⟩ : ByteArray), .int .i64 0] 26 (0, 0)) (z_94) hb)
        have n3_ := Aside0.mk (blk_below (g := gb375) (o := .cells #[.string t370, .int .i64 t371, .int .i64 t372, .string t373, .int .i64 t374] 26 (0, 0)) (z_115) hb)
        have n4_ := Aside0.mk (Kd.C_below (z_118) hb)
        have n5_ := Aside0.mk (below_step (z_111) hb)
        clear HO384
        clear BK363
        clear BK375
        clear HR388
        clear HB
        have HO384 := n0_
        have HO391 := n1_
        have BK363 := n2_
        have BK375 := n3_
        have HR388 := n4_
        have HB := n5_
        clear n0_ n1_ n2_ n3_ n4_ n5_
        (try clear hb)
        (try clear hb2)
        (try clear hk)
        (try clear hi)
        (try clear ho0)
        refine hK.out _ _ ⟨(blk_cell BK375.out 0).trans rfl, (blk_cell BK375.out 1).trans rfl, (blk_cell BK375.out 2).trans rfl, (blk_cell BK375.out 3).trans rfl, (blk_cell BK375.out 4).trans rfl⟩ (fun hHeld => ?_)
        clear hK K
        refine norm_ (a' := ?_) ?_ ?_
        rotate_left
        ·show Act.put _ (some 62) _ = _
         simp only [Act.put, List.setIfInBounds_toArray, List.set_cons_zero, List.set_cons_succ, i64_w, i32_w]
         rfl
        refine pure_ (i := 8) (N := some 8) (v := ?_) (a' := ?_) #[T,T,T,T,T,T,T,T,T,F,F] rfl rfl (any_of HT_.out (z_0)) (fun _ _ _ h => h) (Or.inl ⟨z_1, ?_⟩) ?_ ?_
        rotate_left
        ·intro w'
         go_simp
         with_reducible rfl
        rotate_left
        ·simp only [Act.put, List.setIfInBounds_toArray, List.set_cons_zero, List.set_cons_succ, i64_w, i32_w]
         rfl
        refine one_ (i := 9) (N := none) #[T,T,T,T,T,T,T,T,T,T,F] rfl rfl (one_of HT_.out (z_0)) (z_5) (fun K hK => ?_)
        have hs45 : w44.cell? ⟨gb363, 0, none⟩ = some (.string (⟨#[]⟩ : ByteArray)) := (blk_cell BK363.out 0).trans rfl
        have hfs45 := blk_frozen BK363.out 0
        have hns45_1 := NB375_363.out
        have hms45_1 := NB363_375.out
        have hs46 : w44.cell? ⟨gb363, 1, none⟩ = some (.int .i64 0) := (blk_cell BK363.out 1).trans rfl
        have hfs46 := blk_frozen BK363.out 1
        have hns46_1 := NB375_363.out
        have hms46_1 := NB363_375.out
        have hs47 : w44.cell? ⟨gb363, 2, none⟩ = some (.int .i64 0) := (blk_cell BK363.out 2).trans rfl
        have hfs47 := blk_frozen BK363.out 2
        have hns47_1 := NB375_363.out
        have hms47_1 := NB363_375.out
        have hs48 : w44.cell? ⟨gb363, 3, none⟩ = some (.string (⟨#[]⟩ : ByteArray)) := (blk_cell BK363.out 3).trans rfl
        have hfs48 := blk_frozen BK363.out 3
        have hns48_1 := NB375_363.out
        have hms48_1 := NB363_375.out
        have hs49 : w44.cell? ⟨gb363, 4, none⟩ = some (.int .i64 0) := (blk_cell BK363.out 4).trans rfl
        have hfs49 := blk_frozen BK363.out 4
        have hns49_1 := NB375_363.out
        have hms49_1 := NB363_375.out
        refine skip_ (w1 := ?_) (z_1) rfl ?_ ?_
        rotate_left
        ·go_simp
         rfl
        refine hK.out _ _ ⟨((cell_far (p := ⟨gb363, _, none⟩) NB375_363.out _).trans (((cell_far (p := ⟨gb363, _, none⟩) NB375_363.out _).trans (((cell_far (p := ⟨gb363, _, none⟩) NB375_363.out _).trans (((cell_far (p := ⟨gb363, _, none⟩) NB375_363.out _).trans (((cell_far (p := ⟨gb363, _, none⟩) NB375_363.out _).trans (hHeld.1)))))))))), ((cell_far (p := ⟨gb363, _, none⟩) NB375_363.out _).trans (((cell_far (p := ⟨gb363, _, none⟩) NB375_363.out _).trans (((cell_far (p := ⟨gb363, _, none⟩) NB375_363.out _).trans (((cell_far (p := ⟨gb363, _, none⟩) NB375_363.out _).trans (((cell_far (p := ⟨gb363, _, none⟩) NB375_363.out _).trans (hHeld.2.1)))))))))), ((cell_far (p := ⟨gb363, _, none⟩) NB375_363.out _).trans (((cell_far (p := ⟨gb363, _, none⟩) NB375_363.out _).trans (((cell_far (p := ⟨gb363, _, none⟩) NB375_363.out _).trans (((cell_far (p := ⟨gb363, _, none⟩) NB375_363.out _).trans (((cell_far (p := ⟨gb363, _, none⟩) NB375_363.out _).trans (hHeld.2.2.1)))))))))), ((cell_far (p := ⟨gb363, _, none⟩) NB375_363.out _).trans (((cell_far (p := ⟨gb363, _, none⟩) NB375_363.out _).trans (((cell_far (p := ⟨gb363, _, none⟩) NB375_363.out _).trans (((cell_far (p := ⟨gb363, _, none⟩) NB375_363.out _).trans (((cell_far (p := ⟨gb363, _, none⟩) NB375_363.out _).trans (hHeld.2.2.2.1)))))))))), ((cell_far (p := ⟨gb363, _, none⟩) NB375_363.out _).trans (((cell_far (p := ⟨gb363, _, none⟩) NB375_363.out _).trans (((cell_far (p := ⟨gb363, _, none⟩) NB375_363.out _).trans (((cell_far (p := ⟨gb363, _, none⟩) NB375_363.out _).trans (((cell_far (p := ⟨gb363, _, none⟩) NB375_363.out _).trans (hHeld.2.2.2.2))))))))))⟩ (fun hHeld => ?_)
        clear hK K
        refine pure_ (i := 10) (N := some 10) (v := ?_) (a' := ?_) #[T,T,T,T,T,T,T,T,T,T,T] rfl rfl (any_of HT_.out (z_0)) (fun _ _ _ h => h) (Or.inl ⟨z_1, ?_⟩) ?_ ?_
        rotate_left
        ·intro w'
         go_simp
         with_reducible rfl
        rotate_left
        ·simp only [Act.put, List.setIfInBounds_toArray, List.set_cons_zero, List.set_cons_succ, i64_w, i32_w]
         rfl
        refine done_ (done_of HT_.out (z_0)) ?_
        try go_wp2
        refine bodyPost_ret (results_list (rs := [.tmp 8, .cell 9 26, .tmp 10]) rfl (z_12) (.tmp (.cell gb363 26 #[.string t370, .int .i64 t371, .int .i64 t372, .string t373, .int .i64 t374] (0, 0) _ rfl (z_120) Try.underlying26 rfl (z_0) (.tmp .nil)))) rfl ?_
        exact ⟨_, by first | rfl | (simp [errW_none, errW_some] <;> rfl) | (simp only [← hji28]; first | rfl | (simp [errW_none, errW_some] <;> rfl)) | (simp [*, errW_none, errW_some] <;> rfl), by (with_reducible repeat (first | apply Kd.R_alloc | apply Kd.R_drewN | apply Kd.R_drew)); exact Kd.R_mono (Kd.R_far (p := ⟨gb363, 4, none⟩) (Kd.R_far (p := ⟨gb363, 3, none⟩) (Kd.R_far (p := ⟨gb363, 2, none⟩) (Kd.R_far (p := ⟨gb363, 1, none⟩) (Kd.R_far (p := ⟨gb363, 0, none⟩) (Kd.R_types HO391.out BK363.out (z_5)) (fun _ hk => hk.2) (.string t370)) (fun _ hk => hk.2) (.int .i64 t371)) (fun _ hk => hk.2) (.int .i64 t372)) (fun _ hk => hk.2) (.string t373)) (fun _ hk => hk.2) (.int .i64 t374)) (fun _ hk => trivial), z_111⟩
       ·rw [if_neg c30] at H
        exact absurd H (z_12)
      ·rw [if_neg c29] at H
       exact absurd H (z_12)
     ·rw [if_neg c27] at H
      exact absurd H (z_12)
    ·rw [if_neg c25] at H
     have c25b0 : decide (0 ≤ t364) = false := decide_eq_false c25
     clear c25
     by_cases c50 : t376.length < 2199023255552
     ·rw [if_pos c50] at H
      have LMc50 := Aside0.mk c50
      clear c50
      obtain ⟨y392, hy392⟩ : ∃ y_ : List (S83), y_ = (t376 ++ [(⟨(⟨t370, t371, t372, t373, t374⟩ : S26), wrap64 (a3 + t374)⟩ : S83)]) := ⟨_, rfl⟩
      replace H : (if 0 ≤ (mx 0 (wrap64 ((y392.length : Int) - 5))) then (if (mx 0 (wrap64 ((y392.length : Int) - 5))) ≤ (y392.length : Int) then ((impl_Kept_75.f (y392.drop ((mx 0 (wrap64 ((y392.length : Int) - 5))) : Int).toNat)).bind fun t399 => (some (t399, t370, t371, t372, t373, t374, false))) else (none)) else (none)) = some (r1, r2, r3, r4, r5, r6, r7) := by first | (rw [hy392]; with_reducible exact H) | (have H2_ := (Option.bind_some _ _).symm.trans H; rw [hy392]; with_reducible exact H2_) | (have H2_ := (Option.bind_some _ _).symm.trans H; with_reducible exact H2_) | with_reducible exact H | (rw [hy392]; exact H) | exact H
      have Ny392 := Aside0.mk hy392
      clear hy392
      obtain ⟨ji51, hji51⟩ : ∃ j_ : Int, (mx 0 (wrap64 ((y392.length : Int) - 5))) = j_ := ⟨_, rfl⟩
      replace H : (if 0 ≤ (ji51) then (if (ji51) ≤ (y392.length : Int) then ((impl_Kept_75.f (y392.drop ((ji51) : Int).toNat)).bind fun t399 => (some (t399, t370, t371, t372, t373, t374, false))) else (none)) else (none)) = some (r1, r2, r3, r4, r5, r6, r7) := by first | (rw [hji51] at H; exact H) | (simp only [hji51] at H ⊢; exact H)
      (try rw [hji51] at A23)
      (try rw [hji51] at A24)
      (try (have hji51l : 0 ≤ ji51 := by (rw [← hji51]; unfold mx; (repeat' split) <;> omega)))
      (try (have hji51m : 0 ≤ ji51 := z_6))
      have hji51_ : (if 0 < (wrap64 ((y392.length : Int) - 5)) then (wrap64 ((y392.length : Int) - 5)) else 0) = ji51 := hji51
      by_cases c52 : 0 ≤ (ji51)
      ·rw [if_pos c52] at H
       have c52b0 := eq_true c52
       have c52b1 : decide (0 ≤ (ji51)) = true := decide_eq_true c52
       clear c52
       by_cases c53 : (ji51) ≤ (y392.length : Int)
       ·rw [if_pos c53] at H
        have c53b0 := eq_true c53
        have c53b1 : decide ((ji51) ≤ (y392.length : Int)) = true := decide_eq_true c53
        clear c53
        obtain ⟨y395, hy395⟩ : ∃ y_ : List (S83), y_ = (y392.drop ((ji51) : Int).toNat) := ⟨_, rfl⟩
        replace H : ((impl_Kept_75.f y395).bind fun t399 => (some (t399, t370, t371, t372, t373, t374, false))) = some (r1, r2, r3, r4, r5, r6, r7) := by first | (rw [hy395]; with_reducible exact H) | (have H2_ := (Option.bind_some _ _).symm.trans H; rw [hy395]; with_reducible exact H2_) | (have H2_ := (Option.bind_some _ _).symm.trans H; with_reducible exact H2_) | with_reducible exact H | (rw [hy395]; exact H) | exact H
        have Ny395 := Aside0.mk hy395
        clear hy395
        replace H := Option.bind_eq_some_iff.mp H
        obtain ⟨t399, A540, H⟩ := H
        have A54 := Aside0.mk A540
        clear A540
        simp only [Option.some.injEq, Prod.mk.injEq] at H
        obtain ⟨rfl, rfl, rfl, rfl, rfl, rfl, rfl⟩ := H
        try go_wp2_with (first | ((with_reducible refine gate_callee (f := 63) rfl ?_); refine goesL_ (some 37) rfl rfl Try.func63 (z_0) rfl #[.slice A1 l1.length c1, .string a2] rfl (z_14) ?_; (with_reducible refine (impl_ask.calls kj5 _ _ l1 a2 t370 t371 t372 t373 t374 _ ?side1 ?side2 A23.out).mono ?_); (case side1 => exact z_60); (case side2 => exact HC1.out); rintro e w55 ⟨rfl, hb⟩; refine ⟨_, rfl, ?_⟩; have n0_ := Aside0.mk (blk_below (g := gb363) (o := .cells #[.string (⟨#[]⟩ : ByteArray), .int .i64 0, .int .i64 0, .string (⟨#[]⟩ : ByteArray), .int .i64 0] 26 (0, 0)) (z_94) hb); have n1_ := Aside0.mk (below_step (z_95) hb); clear BK363; clear HB; have BK363 := n0_; have HB := n1_; clear n0_ n1_; (try clear hb); (try clear hb2); (try clear hk); (try clear hi)) | ((with_reducible refine gate_dst (N := 12) rfl ?_); refine box_event ?hg (N := 12) ?hd (cs := #[.string (⟨#[]⟩ : ByteArray), .int .i64 0, .int .i64 0, .string (⟨#[]⟩ : ByteArray), .int .i64 0]) (t := 26) ?hr ?_; (case hd => rfl); (case hg => rfl); (case hr => exact z_9); intro gb375 hg w56 hbox hb; have n0_ := Aside0.mk (blk_below (g := gb363) (o := .cells #[.string (⟨#[]⟩ : ByteArray), .int .i64 0, .int .i64 0, .string (⟨#[]⟩ : ByteArray), .int .i64 0] 26 (0, 0)) (z_94) hb); have n1_ := Aside0.mk (below_step (z_95) hb); have n2_ := Aside0.mk (hbox); have n3_ := Aside0.mk ((z_108 : w.heap.size ≤ gb375)); have n4_ := Aside0.mk ((z_108 : w.heap.size ≤ gb375)); have n5_ := Aside0.mk ((z_109 : gb363 ≠ gb375)); have n6_ := Aside0.mk ((z_110 : gb375 ≠ gb363)); clear BK363; clear HB; have BK363 := n0_; have HB := n1_; have BK375 := n2_; have GW375 := n3_; have GE375 := n4_; have NB363_375 := n5_; have NB375_363 := n6_; clear n0_ n1_ n2_ n3_ n4_ n5_ n6_; clear hb hbox hg; have hnb57 := NB375_363.out; have hnc57 := NB363_375.out; have hcz58_0 : w56.cell? ⟨gb375, 0, none⟩ = some (.string (⟨#[]⟩ : ByteArray)) := (blk_cell BK375.out 0).trans rfl; have hcz58_1 : w56.cell? ⟨gb375, 1, none⟩ = some (.int .i64 0) := (blk_cell BK375.out 1).trans rfl; have hcz58_2 : w56.cell? ⟨gb375, 2, none⟩ = some (.int .i64 0) := (blk_cell BK375.out 2).trans rfl; have hcz58_3 : w56.cell? ⟨gb375, 3, none⟩ = some (.string (⟨#[]⟩ : ByteArray)) := (blk_cell BK375.out 3).trans rfl; have hcz58_4 : w56.cell? ⟨gb375, 4, none⟩ = some (.int .i64 0) := (blk_cell BK375.out 4).trans rfl; have hfz58_0 := blk_frozen BK375.out 0; have hfz58_1 := blk_frozen BK375.out 1; have hfz58_2 := blk_frozen BK375.out 2; have hfz58_3 := blk_frozen BK375.out 3; have hfz58_4 := blk_frozen BK375.out 4) | ((with_reducible refine gate_callee (f := 84) rfl ?_); refine goesL_ (some 39) rfl rfl Try.func84 (z_0) rfl #[.slice A0 l0.length c0] rfl (z_14) ?_; (with_reducible refine (impl_Kept_84.calls _ _ l0 t376 _ ?side1 ?side2 A24.out).mono ?_); (case side1 => exact z_112); (case side2 => exact HC0.out); rintro e w59 ⟨v377, rfl, ho0, hb⟩; refine ⟨_, rfl, ?_⟩; have n0_ := Aside0.mk (Kd.R_lower ho0 (below_size (z_111))); have n1_ := Aside0.mk (blk_below (g := gb363) (o := .cells #[.string (⟨#[]⟩ : ByteArray), .int .i64 0, .int .i64 0, .string (⟨#[]⟩ : ByteArray), .int .i64 0] 26 (0, 0)) (z_113) hb); have n2_ := Aside0.mk (blk_below (g := gb375) (o := .cells #[.string t370, .int .i64 t371, .int .i64 t372, .string t373, .int .i64 t374] 26 (0, 0)) (z_114) hb); have n3_ := Aside0.mk (below_step (z_111) hb); clear BK363; clear BK375; clear HB; have HO378 := n0_; have BK363 := n1_; have BK375 := n2_; have HB := n3_; clear n0_ n1_ n2_ n3_; (try clear hb); (try clear hb2); (try clear hk); (try clear hi); (try clear ho0); have hcz60_0 : w59.cell? ⟨gb375, 0, none⟩ = some (.string t370) := (blk_cell BK375.out 0).trans rfl; have hcz60_1 : w59.cell? ⟨gb375, 1, none⟩ = some (.int .i64 t371) := (blk_cell BK375.out 1).trans rfl; have hcz60_2 : w59.cell? ⟨gb375, 2, none⟩ = some (.int .i64 t372) := (blk_cell BK375.out 2).trans rfl; have hcz60_3 : w59.cell? ⟨gb375, 3, none⟩ = some (.string t373) := (blk_cell BK375.out 3).trans rfl; have hcz60_4 : w59.cell? ⟨gb375, 4, none⟩ = some (.int .i64 t374) := (blk_cell BK375.out 4).trans rfl; have hfz60_0 := blk_frozen BK375.out 0; have hfz60_1 := blk_frozen BK375.out 1; have hfz60_2 := blk_frozen BK375.out 2; have hfz60_3 := blk_frozen BK375.out 3; have hfz60_4 := blk_frozen BK375.out 4) | ((with_reducible refine gate_builtin (b := .append) (xs := #[.tmp 47, .tmp 54]) rfl ?_); at_builtin; refine Kd.R_append k83 (w0 := w) w.heap.size rfl (.tmp 47) (.tmp 54) 48 83 (.agg #[(.string ⟨#[]⟩), (.int .i64 0), (.int .i64 0), (.string ⟨#[]⟩), (.int .i64 0), (.int .i64 0)]) 64 rfl Try.underlying48 info83 rfl (z_5) (z_6) v377 t376 (⟨(⟨t370, t371, t372, t373, t374⟩ : S26), wrap64 (a3 + t374)⟩ : S83) [.string t370, .int .i64 t371, .int .i64 t372, .string t373, .int .i64 t374, .int .i64 (wrap64 (a3 + t374))] (fun _ => True) (fun _ => False) rfl rfl ?aP (fun _ hk => hk.elim) ?aF ?aO ?aB ?aS ?aL ?_; (case aP => exact k83_mkM _ _ _ (⟨(⟨t370, t371, t372, t373, t374⟩ : S26), wrap64 (a3 + t374)⟩ : S83)); (case aB => exact z_116); (case aF => exact z_52); (case aO => exact (by (with_reducible repeat (first | apply Kd.R_alloc | apply Kd.R_drewN | apply Kd.R_drew)); exact HO378.out)); (case aS => exact z_117); (case aL => have := LMc50.out; omega); intro v393 w61 ho hb hg hat; rw [← Ny392.out] at ho; have n0_ := Aside0.mk (blk_grown (g := gb363) (o := .cells #[.string (⟨#[]⟩ : ByteArray), .int .i64 0, .int .i64 0, .string (⟨#[]⟩ : ByteArray), .int .i64 0] 26 (0, 0)) (z_94) hg (Kd.R_ne HO378.out BK363.out (z_5))); have n1_ := Aside0.mk (blk_grown (g := gb375) (o := .cells #[.string t370, .int .i64 t371, .int .i64 t372, .string t373, .int .i64 t374] 26 (0, 0)) (z_115) hg (Kd.R_ne HO378.out BK375.out (z_5))); have n2_ := Aside0.mk (hb); have n3_ := Aside0.mk (ho); clear BK363; clear BK375; clear HB; clear HO378; have BK363 := n0_; have BK375 := n1_; have HB := n2_; have HO394 := n3_; clear n0_ n1_ n2_ n3_; clear ho hb hg hat))
        have n0_ := Aside0.mk (Kd.R_drew HO394.out)
        have n1_ := Aside0.mk (blk_drew BK363.out)
        have n2_ := Aside0.mk (blk_drew BK375.out)
        have n3_ := Aside0.mk (below_drew1 HB.out)
        clear HO394
        clear BK363
        clear BK375
        clear HB
        have HO394 := n0_
        have BK363 := n1_
        have BK375 := n2_
        have HB := n3_
        clear n0_ n1_ n2_ n3_
        obtain ⟨Ao63, co63, eo63⟩ := Kd.R_slice HO394.out
        (first | subst eo63 | (injection eo63 with f1_ f2_ f3_; have f4_ := f1_.symm; have f5_ := f3_.symm; clear f1_ f2_ f3_; subst f4_; subst f5_))
        have q64 : ((ji51) : Int) ≤ ((y392.length : Int) : Int) := of_decide_eq_true (z_7)
        obtain ⟨i064, hi064, _, hsz64, _⟩ := info_parts info83
        have hroom64 : y392.length ≤ co63 := (Kd.R_reads' HO394.out).2.1
        have hC64 : Kd.C k83 _ Ao63 y392.length y392 := (Kd.R_reads' HO394.out).2.2
        have q064 : (0 : Int) ≤ ((ji51) : Int) := of_decide_eq_true (z_7)
        have hcut64 := cut_from (P := Try.prog) 48 83 .i64 Try.underlying48 hi064 6 hsz64 Ao63 y392.length co63 (ji51) q064 q64
        have hr64 := Kd.C_drop (m := ((ji51) : Int).toNat) (c := co63) hC64 (z_6) hroom64
        obtain ⟨A64, hA64⟩ : ∃ A1, A1 = (if co63 = ((ji51) : Int).toNat then Ao63 else (Ao63 : Option Addr).map (·.add (((ji51) : Int).toNat * 6))) := ⟨_, rfl⟩
        obtain ⟨c64, hc64⟩ : ∃ c1, c1 = co63 - ((ji51) : Int).toNat := ⟨_, rfl⟩
        have hy64 : y395.length = y392.length - ((ji51) : Int).toNat := (by rw [Ny395.out, List.length_drop] <;> omega)
        rw [show (y392).drop ((ji51) : Int).toNat = y395 from Ny395.out.symm] at hr64
        replace hr64 : Kd.C k83 _ A64 y395.length y395 := (by rw [hA64]; exact hr64)
        rw [← hy64, ← hA64, ← hc64] at hcut64
        have HR398 := Aside0.mk hr64
        have HC398 := Aside0.mk (show y395.length ≤ c64 from by rw [hy64, hc64]; exact Nat.sub_le_sub_right hroom64 _)
        clear hr64 hC64 hroom64 hi064 hsz64 hc64
        have KY64 := Aside0.mk hy64
        have KA64 := Aside0.mk hA64
        clear hy64 hA64
        have KL64 := Aside0.mk (show ((ji51) : Int).toNat ≤ y392.length from z_6)
        replace q64 := eq_true q64
        refine start_ (n := 11) (S := fun w' => w'.cell? ⟨gb375, 0, none⟩ = some (.string t370) ∧ w'.cell? ⟨gb375, 1, none⟩ = some (.int .i64 t371) ∧ w'.cell? ⟨gb375, 2, none⟩ = some (.int .i64 t372) ∧ w'.cell? ⟨gb375, 3, none⟩ = some (.string t373) ∧ w'.cell? ⟨gb375, 4, none⟩ = some (.int .i64 t374)) (ds := []) #[F,F,F,F,F,F,F,F,F,F,F] (z_0) rfl rfl ⟨(blk_cell BK375.out 0).trans rfl, (blk_cell BK375.out 1).trans rfl, (blk_cell BK375.out 2).trans rfl, (blk_cell BK375.out 3).trans rfl, (blk_cell BK375.out 4).trans rfl⟩ (fun hHeld => ?_); refine with_tabW impl_keep.tab9 impl_keep.bits9 (fun HT_ HW_ => ?_)
        generalize w61.drew = w62 at HO394 BK363 BK375 HB HR398 hHeld ⊢
        refine pure_ (i := 0) (N := some 56) (v := ?_) (a' := ?_) #[T,F,F,F,F,F,F,F,F,F,F] rfl rfl (any_of HT_.out (z_0)) (fun _ _ _ h => h) (Or.inl ⟨z_1, ?_⟩) ?_ ?_
        rotate_left
        ·intro w'
         go_simp
         with_reducible rfl
        rotate_left
        ·simp only [Act.put, List.setIfInBounds_toArray, List.set_cons_zero, List.set_cons_succ, i64_w, i32_w]
         rfl
        refine pure_ (i := 1) (N := some 57) (v := ?_) (a' := ?_) #[T,T,F,F,F,F,F,F,F,F,F] rfl rfl (any_of HT_.out (z_0)) (fun _ _ _ h => h) (Or.inl ⟨z_1, ?_⟩) ?_ ?_
        rotate_left
        ·intro w'
         go_simp
         with_reducible rfl
        rotate_left
        ·simp only [Act.put, List.setIfInBounds_toArray, List.set_cons_zero, List.set_cons_succ, i64_w, i32_w]
         rfl
        refine pure_ (i := 2) (N := some 58) (v := ?_) (a' := ?_) #[T,T,T,F,F,F,F,F,F,F,F] rfl rfl (any_of HT_.out (z_0)) (fun _ _ _ h => h) (Or.inl ⟨z_1, ?_⟩) ?_ ?_
        rotate_left
        ·intro w'
         go_simp
         with_reducible rfl
        rotate_left
        ·simp only [Act.put, List.setIfInBounds_toArray, List.set_cons_zero, List.set_cons_succ, i64_w, i32_w]
         rfl
        refine pure_ (i := 3) (N := some 59) (v := ?_) (a' := ?_) #[T,T,T,T,F,F,F,F,F,F,F] rfl rfl (any_of HT_.out (z_0)) (fun _ _ _ h => h) (Or.inl ⟨z_1, ?_⟩) ?_ ?_
        rotate_left
        ·intro w'
         go_simp
         with_reducible rfl
        rotate_left
        ·simp only [Act.put, List.setIfInBounds_toArray, List.set_cons_zero, List.set_cons_succ, i64_w, i32_w]
         rfl
        refine pure_ (i := 4) (N := some 60) (v := ?_) (a' := ?_) #[T,T,T,T,T,F,F,F,F,F,F] rfl rfl (any_of HT_.out (z_0)) (fun _ _ _ h => h) (Or.inl ⟨z_1, ?_⟩) ?_ ?_
        rotate_left
        ·intro w'
         go_simp
         with_reducible rfl
        rotate_left
        ·simp only [Act.put, List.setIfInBounds_toArray, List.set_cons_zero, List.set_cons_succ, i64_w, i32_w]
         rfl
        refine pure_ (i := 5) (N := some 61) (v := ?_) (a' := ?_) #[T,T,T,T,T,T,F,F,F,F,F] rfl rfl (any_of HT_.out (z_0)) (fun _ _ _ h => h) (Or.inl ⟨z_1, ?_⟩) ?_ ?_
        rotate_left
        ·intro w'
         go_simp
         with_reducible rfl
        rotate_left
        ·simp only [Act.put, List.setIfInBounds_toArray, List.set_cons_zero, List.set_cons_succ, i64_w, i32_w]
         rfl
        refine take_ (i := 7) (N := some 63) (v := ?_) (a' := ?_) #[T,T,T,T,T,T,F,T,F,F,F] rfl rfl (take_ofW HT_.out HW_.out (z_0)) (fun _ _ _ h => h) (Or.inl ⟨z_1, ?_⟩) hHeld ?_ ?_
        rotate_left
        ·rintro w' ⟨s0, s1, s2, s3, s4⟩
         go_simp
         with_reducible rfl
        rotate_left
        ·simp only [Act.put, List.setIfInBounds_toArray, List.set_cons_zero, List.set_cons_succ, i64_w, i32_w]
         rfl
        refine one_ (i := 6) (N := some 62) #[T,T,T,T,T,T,T,T,F,F,F] rfl rfl (one_of HT_.out (z_0)) (z_5) (fun K hK => ?_)
        refine goes_ Try.func75 (z_0) rfl #[.slice A64 y395.length c64] (z_1) rfl rfl (z_14) ?_
        with_reducible refine (impl_Kept_75.calls _ _ y395 t399 _ ?side1 ?side2 A54.out).mono ?_
        (case side1 => repeat (first | exact (z_121) | (with_reducible refine Kd.C_alloc ?_ _) | (with_reducible refine Kd.C_drewN ?_ _) | (with_reducible refine Kd.C_drew ?_)))
        (case side2 => exact HC398.out)
        rintro e w65 ⟨v400, rfl, ho0, hb⟩
        refine ⟨_, rfl, ?_⟩
        have n0_ := Aside0.mk (Kd.R_elder' (z_122) (Kd.R_base ho0) hb)
        have n1_ := Aside0.mk (Kd.R_lower (Kd.R_new' ho0 (Kd.R_lt (z_122))) (below_size (z_111)))
        have n2_ := Aside0.mk (blk_below (g := gb363) (o := .cells #[.string (⟨#[]⟩ : ByteArray), .int .i64 0, .int .i64 0, .string (⟨#[]⟩ : ByteArray), .int .i64 0] 26 (0, 0)) (z_94) hb)
        have n3_ := Aside0.mk (blk_below (g := gb375) (o := .cells #[.string t370, .int .i64 t371, .int .i64 t372, .string t373, .int .i64 t374] 26 (0, 0)) (z_115) hb)
        have n4_ := Aside0.mk (Kd.C_below (z_121) hb)
        have n5_ := Aside0.mk (below_step (z_111) hb)
        clear HO394
        clear BK363
        clear BK375
        clear HR398
        clear HB
        have HO394 := n0_
        have HO401 := n1_
        have BK363 := n2_
        have BK375 := n3_
        have HR398 := n4_
        have HB := n5_
        clear n0_ n1_ n2_ n3_ n4_ n5_
        (try clear hb)
        (try clear hb2)
        (try clear hk)
        (try clear hi)
        (try clear ho0)
        refine hK.out _ _ ⟨(blk_cell BK375.out 0).trans rfl, (blk_cell BK375.out 1).trans rfl, (blk_cell BK375.out 2).trans rfl, (blk_cell BK375.out 3).trans rfl, (blk_cell BK375.out 4).trans rfl⟩ (fun hHeld => ?_)
        clear hK K
        refine norm_ (a' := ?_) ?_ ?_
        rotate_left
        ·show Act.put _ (some 62) _ = _
         simp only [Act.put, List.setIfInBounds_toArray, List.set_cons_zero, List.set_cons_succ, i64_w, i32_w]
         rfl
        refine pure_ (i := 8) (N := some 8) (v := ?_) (a' := ?_) #[T,T,T,T,T,T,T,T,T,F,F] rfl rfl (any_of HT_.out (z_0)) (fun _ _ _ h => h) (Or.inl ⟨z_1, ?_⟩) ?_ ?_
        rotate_left
        ·intro w'
         go_simp
         with_reducible rfl
        rotate_left
        ·simp only [Act.put, List.setIfInBounds_toArray, List.set_cons_zero, List.set_cons_succ, i64_w, i32_w]
         rfl
        refine one_ (i := 9) (N := none) #[T,T,T,T,T,T,T,T,T,T,F] rfl rfl (one_of HT_.out (z_0)) (z_5) (fun K hK => ?_)
        have hs66 : w65.cell? ⟨gb363, 0, none⟩ = some (.string (⟨#[]⟩ : ByteArray)) := (blk_cell BK363.out 0).trans rfl
        have hfs66 := blk_frozen BK363.out 0
        have hns66_1 := NB375_363.out
        have hms66_1 := NB363_375.out
        have hs67 : w65.cell? ⟨gb363, 1, none⟩ = some (.int .i64 0) := (blk_cell BK363.out 1).trans rfl
        have hfs67 := blk_frozen BK363.out 1
        have hns67_1 := NB375_363.out
        have hms67_1 := NB363_375.out
        have hs68 : w65.cell? ⟨gb363, 2, none⟩ = some (.int .i64 0) := (blk_cell BK363.out 2).trans rfl
        have hfs68 := blk_frozen BK363.out 2
        have hns68_1 := NB375_363.out
        have hms68_1 := NB363_375.out
        have hs69 : w65.cell? ⟨gb363, 3, none⟩ = some (.string (⟨#[]⟩ : ByteArray)) := (blk_cell BK363.out 3).trans rfl
        have hfs69 := blk_frozen BK363.out 3
        have hns69_1 := NB375_363.out
        have hms69_1 := NB363_375.out
        have hs70 : w65.cell? ⟨gb363, 4, none⟩ = some (.int .i64 0) := (blk_cell BK363.out 4).trans rfl
        have hfs70 := blk_frozen BK363.out 4
        have hns70_1 := NB375_363.out
        have hms70_1 := NB363_375.out
        refine skip_ (w1 := ?_) (z_1) rfl ?_ ?_
        rotate_left
        ·go_simp
         rfl
        refine hK.out _ _ ⟨((cell_far (p := ⟨gb363, _, none⟩) NB375_363.out _).trans (((cell_far (p := ⟨gb363, _, none⟩) NB375_363.out _).trans (((cell_far (p := ⟨gb363, _, none⟩) NB375_363.out _).trans (((cell_far (p := ⟨gb363, _, none⟩) NB375_363.out _).trans (((cell_far (p := ⟨gb363, _, none⟩) NB375_363.out _).trans (hHeld.1)))))))))), ((cell_far (p := ⟨gb363, _, none⟩) NB375_363.out _).trans (((cell_far (p := ⟨gb363, _, none⟩) NB375_363.out _).trans (((cell_far (p := ⟨gb363, _, none⟩) NB375_363.out _).trans (((cell_far (p := ⟨gb363, _, none⟩) NB375_363.out _).trans (((cell_far (p := ⟨gb363, _, none⟩) NB375_363.out _).trans (hHeld.2.1)))))))))), ((cell_far (p := ⟨gb363, _, none⟩) NB375_363.out _).trans (((cell_far (p := ⟨gb363, _, none⟩) NB375_363.out _).trans (((cell_far (p := ⟨gb363, _, none⟩) NB375_363.out _).trans (((cell_far (p := ⟨gb363, _, none⟩) NB375_363.out _).trans (((cell_far (p := ⟨gb363, _, none⟩) NB375_363.out _).trans (hHeld.2.2.1)))))))))), ((cell_far (p := ⟨gb363, _, none⟩) NB375_363.out _).trans (((cell_far (p := ⟨gb363, _, none⟩) NB375_363.out _).trans (((cell_far (p := ⟨gb363, _, none⟩) NB375_363.out _).trans (((cell_far (p := ⟨gb363, _, none⟩) NB375_363.out _).trans (((cell_far (p := ⟨gb363, _, none⟩) NB375_363.out _).trans (hHeld.2.2.2.1)))))))))), ((cell_far (p := ⟨gb363, _, none⟩) NB375_363.out _).trans (((cell_far (p := ⟨gb363, _, none⟩) NB375_363.out _).trans (((cell_far (p := ⟨gb363, _, none⟩) NB375_363.out _).trans (((cell_far (p := ⟨gb363, _, none⟩) NB375_363.out _).trans (((cell_far (p := ⟨gb363, _, none⟩) NB375_363.out _).trans (hHeld.2.2.2.2))))))))))⟩ (fun hHeld => ?_)
        clear hK K
        refine pure_ (i := 10) (N := some 10) (v := ?_) (a' := ?_) #[T,T,T,T,T,T,T,T,T,T,T] rfl rfl (any_of HT_.out (z_0)) (fun _ _ _ h => h) (Or.inl ⟨z_1, ?_⟩) ?_ ?_
        rotate_left
        ·intro w'
         go_simp
         with_reducible rfl
        rotate_left
        ·simp only [Act.put, List.setIfInBounds_toArray, List.set_cons_zero, List.set_cons_succ, i64_w, i32_w]
         rfl
        refine done_ (done_of HT_.out (z_0)) ?_
        try go_wp2
        refine bodyPost_ret (results_list (rs := [.tmp 8, .cell 9 26, .tmp 10]) rfl (z_12) (.tmp (.cell gb363 26 #[.string t370, .int .i64 t371, .int .i64 t372, .string t373, .int .i64 t374] (0, 0) _ rfl (z_120) Try.underlying26 rfl (z_0) (.tmp .nil)))) rfl ?_
        exact ⟨_, by first | rfl | (simp [errW_none, errW_some] <;> rfl) | (simp only [← hji51]; first | rfl | (simp [errW_none, errW_some] <;> rfl)) | (simp [*, errW_none, errW_some] <;> rfl), by (with_reducible repeat (first | apply Kd.R_alloc | apply Kd.R_drewN | apply Kd.R_drew)); exact Kd.R_mono (Kd.R_far (p := ⟨gb363, 4, none⟩) (Kd.R_far (p := ⟨gb363, 3, none⟩) (Kd.R_far (p := ⟨gb363, 2, none⟩) (Kd.R_far (p := ⟨gb363, 1, none⟩) (Kd.R_far (p := ⟨gb363, 0, none⟩) (Kd.R_types HO401.out BK363.out (z_5)) (fun _ hk => hk.2) (.string t370)) (fun _ hk => hk.2) (.int .i64 t371)) (fun _ hk => hk.2) (.int .i64 t372)) (fun _ hk => hk.2) (.string t373)) (fun _ hk => hk.2) (.int .i64 t374)) (fun _ hk => trivial), z_111⟩
       ·rw [if_neg c53] at H
        exact absurd H (z_12)
      ·rw [if_neg c52] at H
       exact absurd H (z_12)
     ·rw [if_neg c50] at H
      exact absurd H (z_12)

end Go.Proofs.Ytmgnmgobibpjjaa.GFnKeptFind
