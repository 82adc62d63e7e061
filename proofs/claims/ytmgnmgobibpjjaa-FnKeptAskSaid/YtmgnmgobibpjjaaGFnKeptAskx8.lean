/- What the Go functions that FnKeptAsk reaches come to, walked step by step; there is no condition beyond those each statement names. -/
import Derived.Test.YtmgnmgobibpjjaaGFnKeptAskx0
import Derived.Test.YtmgnmgobibpjjaaGFnKeptAskx5
import Derived.Test.YtmgnmgobibpjjaaGFnKeptAskx7
namespace Go.Proofs.Ytmgnmgobibpjjaa.GFnKeptAsk
open Go.RowKit Go.Proofs.YtmgnmgobibpjjaaVKeptAsk.PrintWords Go.Proofs.YtmgnmgobibpjjaaVKeptAsk.PrintLast Go.Proofs.YtmgnmgobibpjjaaVKeptAsk.PrintMore
open Bool renaming true → T, false → F
attribute [local go_sem] max2_int min2_int max_two min_two max_three min_three max_four min_four   -- for this text's walks alone
set_option linter.unusedVariables false
set_option linter.unusedSimpArgs false

/-! ### impl_keep: function 74 -/
def impl_keep.j0 : Nat → List (S83) → List (S26) → ByteArray → Int → Int → Bool → Option ((List (S83)) × ByteArray × Int × Int × ByteArray × Int × Bool)
 | 0, _, _, _, _, _, _ => none
 | k + 1, x0, x1, x2, x3, x11, x27 => if x27 = true then ((impl_Kept_75.f x0).bind fun t185 => (if 0 ≤ x11 then (if x11 < (x0.length : Int) then (some (t185, (rd_T83 x0 x11).f0.f0, (rd_T83 x0 x11).f0.f1, (rd_T83 x0 x11).f0.f2, (rd_T83 x0 x11).f0.f3, (rd_T83 x0 x11).f0.f4, true)) else (none)) else (none))) else ((impl_ask.f k x1 x2).bind fun bt189 => ((impl_Kept_84.f x0).bind fun t195 => (if x11 ≥ 0 then ((impl_Kept_85.f k t195 x11 (wrap64 (x11 + 1))).bind fun t198 => (if t198.length < 2199023255552 then ((some (t198 ++ [(⟨(⟨bt189.1, bt189.2.1, bt189.2.2.1, bt189.2.2.2.1, bt189.2.2.2.2⟩ : S26), wrap64 (x3 + bt189.2.2.2.2)⟩ : S83)] : List (S83))).bind fun y201 => (if 0 ≤ (mx 0 (wrap64 ((y201.length : Int) - 5))) then (if (mx 0 (wrap64 ((y201.length : Int) - 5))) ≤ (y201.length : Int) then ((impl_Kept_75.f (y201.drop ((mx 0 (wrap64 ((y201.length : Int) - 5))) : Int).toNat)).bind fun t208 => (some (t208, bt189.1, bt189.2.1, bt189.2.2.1, bt189.2.2.2.1, bt189.2.2.2.2, false))) else (none)) else (none))) else (none))) else (if t195.length < 2199023255552 then ((some (t195 ++ [(⟨(⟨bt189.1, bt189.2.1, bt189.2.2.1, bt189.2.2.2.1, bt189.2.2.2.2⟩ : S26), wrap64 (x3 + bt189.2.2.2.2)⟩ : S83)] : List (S83))).bind fun y211 => (if 0 ≤ (mx 0 (wrap64 ((y211.length : Int) - 5))) then (if (mx 0 (wrap64 ((y211.length : Int) - 5))) ≤ (y211.length : Int) then ((impl_Kept_75.f (y211.drop ((mx 0 (wrap64 ((y211.length : Int) - 5))) : Int).toNat)).bind fun t218 => (some (t218, bt189.1, bt189.2.1, bt189.2.2.1, bt189.2.2.2.1, bt189.2.2.2.2, false))) else (none)) else (none))) else (none)))))
def impl_keep.f (k : Nat) (l0 : List (S83)) (l1 : List (S26)) (a2 : ByteArray) (a3 : Int) : Option ((List (S83)) × ByteArray × Int × Int × ByteArray × Int × Bool) := (impl_keptAt.f k l0 a2).bind fun t183 => (if t183 ≥ 0 then (if 0 ≤ t183 then (if t183 < (l0.length : Int) then (impl_keep.j0 k l0 l1 a2 a3 t183 (decide (((rd_T83 l0 t183).f1) > a3))) else (none)) else (none)) else (impl_keep.j0 k l0 l1 a2 a3 t183 false))
theorem impl_keep.mono_l : ∀ k, (∀ y0 y1 y2 y3 y4 y5, LeO (impl_keep.j0 k y0 y1 y2 y3 y4 y5) (impl_keep.j0 (k + 1) y0 y1 y2 y3 y4 y5))
 | 0 => fun _ _ _ _ _ _ r h => by simp [impl_keep.j0] at h
 | k + 1 => by
  have ih0 := impl_keep.mono_l k
  ·intro y0 y1 y2 y3 y4 y5
   unfold impl_keep.j0
   repeat' first
   | (with_reducible exact ih0 _ _ _ _ _ _)
   | (with_reducible exact impl_Kept_85.mono _ _ _ _)
   | (with_reducible exact impl_ask.mono _ _ _)
   | (with_reducible exact impl_keptAt.mono _ _ _)
   | (with_reducible exact LeO.refl _)
   | (with_reducible exact LeO.none _)
   | (with_reducible refine LeO.ite ?_ ?_)
   | (with_reducible refine LeO.bind ?_ (fun _ => ?_))
   | exact ih0 _ _ _ _ _ _
   | exact impl_Kept_85.mono _ _ _ _
   | exact impl_ask.mono _ _ _
   | exact impl_keptAt.mono _ _ _
   | exact LeO.none _
   | refine LeO.ite ?_ ?_
   | refine LeO.bind ?_ (fun _ => ?_)
theorem impl_keep.mono : ∀ a0 a1 a2 a3 k, LeO (impl_keep.f k a0 a1 a2 a3) (impl_keep.f (k + 1) a0 a1 a2 a3) := by
 intro a0 a1 a2 a3 k
 have ih0 := impl_keep.mono_l k
 unfold impl_keep.f
 repeat' first
   | (with_reducible exact ih0 _ _ _ _ _ _)
   | (with_reducible exact impl_Kept_85.mono _ _ _ _)
   | (with_reducible exact impl_ask.mono _ _ _)
   | (with_reducible exact impl_keptAt.mono _ _ _)
   | (with_reducible exact LeO.refl _)
   | (with_reducible exact LeO.none _)
   | (with_reducible refine LeO.ite ?_ ?_)
   | (with_reducible refine LeO.bind ?_ (fun _ => ?_))
   | exact ih0 _ _ _ _ _ _
   | exact impl_Kept_85.mono _ _ _ _
   | exact impl_ask.mono _ _ _
   | exact impl_keptAt.mono _ _ _
   | exact LeO.none _
   | refine LeO.ite ?_ ?_
   | refine LeO.bind ?_ (fun _ => ?_)
def impl_keep.T3 : Bool × List (List Nat × List Nat) := (true, [([], []), ([0], [0]), ([], []), ([], []), ([2, 3], [2, 3]), ([4], [4]), ([5], [5]), ([1, 1, 0, 1], [1]), ([6, 7, 0, 1, 2, 3, 4, 5, 6, 7], [6]), ([8, 0, 1, 2, 3, 4, 5, 6, 7, 8], [])])
def impl_keep.B3 : List Nat := [0, 1, 0, 0, 12, 28, 60, 3, 255, 511]
theorem impl_keep.tab3 : rtab .any (opsOf Try.f74 3) = impl_keep.T3 := z_0
theorem impl_keep.bits3 : waitsOk impl_keep.T3.2 impl_keep.B3 = true := z_0
def impl_keep.T9 : Bool × List (List Nat × List Nat) := (true, [([], []), ([], []), ([1], [1]), ([2], [2]), ([3], [3]), ([0, 4], [0, 4]), ([5], [5]), ([], []), ([6, 6, 0, 1, 2, 3, 4, 5, 6], [6]), ([7, 8, 0, 1, 2, 3, 4, 5, 6, 7, 8], [7]), ([9, 0, 1, 2, 3, 4, 5, 6, 7, 8, 9], [])])
def impl_keep.B9 : List Nat := [0, 0, 2, 6, 14, 31, 63, 0, 127, 511, 1023]
theorem impl_keep.tab9 : rtab .any (opsOf Try.f74 9) = impl_keep.T9 := z_0
theorem impl_keep.bits9 : waitsOk impl_keep.T9.2 impl_keep.B9 = true := z_0
set_option maxHeartbeats 8000000 in
set_option maxRecDepth 100000 in
theorem impl_keep.calls (k : Nat) (A0 : Option Addr) (c0 : Nat) (l0 : List (S83)) (A1 : Option Addr) (c1 : Nat) (l1 : List (S26)) (a2 : ByteArray) (a3 : Int) (r1 : List (S83)) (r2 : ByteArray) (r3 : Int) (r4 : Int) (r5 : ByteArray) (r6 : Int) (r7 : Bool) (w : World) (hr0 : Kd.C k83 w A0 l0.length l0) (hc0 : l0.length ≤ c0) (hr1 : Kd.C k26 w A1 l1.length l1) (hc1 : l1.length ≤ c1) (h : impl_keep.f k l0 l1 a2 a3 = some (r1, r2, r3, r4, r5, r6, r7)) :
  Calls Try.prog 74 #[.slice A0 l0.length c0, .slice A1 l1.length c1, .string a2, .int .i64 a3] w fun e w' => ∃ v0_ : Value, e = .returned (.tuple #[v0_, .agg #[.string r2, .int .i64 r3, .int .i64 r4, .string r5, .int .i64 r6], .bool r7]) ∧ Kd.R k83 83 w' w.heap.size (fun _ => True) v0_ r1 ∧ Below w.heap.size w w' := by
 have hu26 := Try.underlying26
 have hu83 := Try.underlying83
 have HR0 := Aside0.mk hr0
 have HC0 := Aside0.mk hc0
 clear hr0 hc0
 have HR1 := Aside0.mk hr1
 have HC1 := Aside0.mk hc1
 clear hr1 hc1
 have HB := Aside0.mk (Below.refl w.heap.size w)
 have H : ((impl_keptAt.f k l0 a2).bind fun t183 => (if t183 ≥ 0 then (if 0 ≤ t183 then (if t183 < (l0.length : Int) then (impl_keep.j0 k l0 l1 a2 a3 t183 (decide (((rd_T83 l0 t183).f1) > a3))) else (none)) else (none)) else (impl_keep.j0 k l0 l1 a2 a3 t183 false))) = some (r1, r2, r3, r4, r5, r6, r7) := h
 clear h
 replace H := Option.bind_eq_some_iff.mp H
 obtain ⟨t183, A50, H⟩ := H
 have A5 := Aside0.mk A50
 clear A50
 have HC6 := Aside0.mk H
 clear H
 go_enter Try.func74, Try.ntmps74
 go_upto_region 2 with (first | ((with_reducible refine gate_dst (N := 9) rfl ?_); refine box_event ?hg (N := 9) ?hd (cs := #[.string (⟨#[]⟩ : ByteArray), .int .i64 0, .int .i64 0, .string (⟨#[]⟩ : ByteArray), .int .i64 0]) (t := 26) ?hr ?_; (case hd => rfl); (case hg => rfl); (case hr => exact z_9); intro gb182 hg w7 hbox hb; have n0_ := Aside0.mk (below_step (z_8) hb); have n1_ := Aside0.mk (hbox); have n2_ := Aside0.mk ((z_20 : w.heap.size ≤ gb182)); have n3_ := Aside0.mk ((z_20 : w.heap.size ≤ gb182)); clear HB; have HB := n0_; have BK182 := n1_; have GW182 := n2_; have GE182 := n3_; clear n0_ n1_ n2_ n3_; clear hb hbox hg) | ((with_reducible refine gate_callee (f := 66) rfl ?_); refine goesL_ (some 16) rfl rfl Try.func66 (z_0) rfl #[.slice A0 l0.length c0, .string a2] rfl (z_14) ?_; (with_reducible refine (impl_keptAt.calls k _ _ l0 a2 t183 _ ?side1 ?side2 A5.out).mono ?_); (case side1 => exact z_33); (case side2 => exact HC0.out); rintro e w8 ⟨rfl, hb⟩; refine ⟨_, rfl, ?_⟩; have n0_ := Aside0.mk (blk_below (g := gb182) (o := .cells #[.string (⟨#[]⟩ : ByteArray), .int .i64 0, .int .i64 0, .string (⟨#[]⟩ : ByteArray), .int .i64 0] 26 (0, 0)) (z_35) hb); have n1_ := Aside0.mk (below_step (z_36) hb); clear BK182; clear HB; have BK182 := n0_; have HB := n1_; clear n0_ n1_; (try clear hb); (try clear hb2); (try clear hk); (try clear hi)))
 (try simp only [Act.put, List.setIfInBounds_toArray, List.set_cons_zero, List.set_cons_succ])
 go_cut [27] (fun v27 wc => ∃ (kq : Nat) (x27_5 : Bool), v27 = .bool x27_5 ∧ Aside0 (impl_keep.j0 kq l0 l1 a2 a3 t183 x27_5 = some (r1, r2, r3, r4, r5, r6, r7)) ∧ Aside0 (kq ≤ k) ∧ Aside0 (wc.heap[gb182]? = some (.cells #[.string (⟨#[]⟩ : ByteArray), .int .i64 0, .int .i64 0, .string (⟨#[]⟩ : ByteArray), .int .i64 0] 26 (0, 0))) ∧ Aside0 (Below w.heap.size w wc))
 case first =>
  have H := HC6.out
  clear HC6
  by_cases c9 : t183 ≥ 0
  ·rw [if_pos c9] at H
   have c9b0 : decide (0 ≤ t183) = true := decide_eq_true c9
   clear c9
   (first | rw [c9b0] | (simp only [i64_w, i32_w]; rw [c9b0]) | skip)
   by_cases c10 : 0 ≤ t183
   ·rw [if_pos c10] at H
    have c10b0 : decide (0 ≤ t183) = true := decide_eq_true c10
    clear c10
    by_cases c11 : t183 < (l0.length : Int)
    ·rw [if_pos c11] at H
     have c11b0 : decide (t183 < (l0.length : Int)) = true := decide_eq_true c11
     clear c11
     have H' := Aside0.mk H
     clear H
     have p184 : 0 ≤ (t183 : Int) := of_decide_eq_true (z_7)
     have q184 : t183 < (l0.length : Int) := of_decide_eq_true (z_7)
     obtain ⟨ad184, e184, hx184_0, hx184_1, hx184_2, hx184_3, hx184_4, hx184_5⟩ := at_T83 HR0.out t183 p184 q184
     cases e184
     replace hx184_0 := pw_cell_below HB.out hx184_0
     replace hx184_1 := pw_cell_below HB.out hx184_1
     replace hx184_2 := pw_cell_below HB.out hx184_2
     replace hx184_3 := pw_cell_below HB.out hx184_3
     replace hx184_4 := pw_cell_below HB.out hx184_4
     replace hx184_5 := pw_cell_below HB.out hx184_5
     replace p184 := eq_true p184
     replace q184 := eq_true q184
     go_wp2
     go_meet
     case rel => exact ⟨_, (decide (((rd_T83 l0 t183).f1) > a3)), (z_3), H', ⟨z_23⟩, ⟨z_35⟩, ⟨z_36⟩⟩
    ·rw [if_neg c11] at H
     exact absurd H (z_12)
   ·rw [if_neg c10] at H
    exact absurd H (z_12)
  ·rw [if_neg c9] at H
   have c9b0 : decide (0 ≤ t183) = false := decide_eq_false c9
   clear c9
   (first | rw [c9b0] | (simp only [i64_w, i32_w]; rw [c9b0]) | skip)
   have H' := Aside0.mk H
   clear H
   go_wp2
   go_meet
   case rel => exact ⟨_, (false), (z_3), H', ⟨z_23⟩, ⟨z_35⟩, ⟨z_36⟩⟩
 case rest =>
  clear HC6
  try clear c1
  try clear p1
  try clear q1
  try clear hx1
  try clear p2
  try clear c6
  try clear c7
  try clear c9
  try clear c9b0
  try clear c10
  try clear c10b0
  try clear c11
  try clear c11b0
  try clear hx184_0
  try clear hx184_1
  try clear hx184_2
  try clear hx184_3
  try clear hx184_4
  try clear hx184_5
  try clear p184
  try clear q184
  obtain ⟨kq, x27_5, rfl, HA, HJ5, BK182, HB⟩ := hcut
  cases kq with
  | zero => exact absurd HA.out (by simp [impl_keep.j0])
  | succ kj5 =>
   have H := HA.out
   clear HA
   simp only [impl_keep.j0] at H
   by_cases c12 : x27_5 = true
   ·subst c12
    rw [if_pos rfl] at H
    replace H := Option.bind_eq_some_iff.mp H
    obtain ⟨t185, A130, H⟩ := H
    have A13 := Aside0.mk A130
    clear A130
    by_cases c14 : 0 ≤ t183
    ·rw [if_pos c14] at H
     have c14b0 : decide (0 ≤ t183) = true := decide_eq_true c14
     clear c14
     by_cases c15 : t183 < (l0.length : Int)
     ·rw [if_pos c15] at H
      have c15b0 : decide (t183 < (l0.length : Int)) = true := decide_eq_true c15
      clear c15
      simp only [Option.some.injEq, Prod.mk.injEq] at H
      obtain ⟨rfl, rfl, rfl, rfl, rfl, rfl, rfl⟩ := H
      try go_wp2
      have n0_ := Aside0.mk (blk_drew BK182.out)
      have n1_ := Aside0.mk (below_drew1 HB.out)
      clear BK182
      clear HB
      have BK182 := n0_
      have HB := n1_
      clear n0_ n1_
      have p188 : 0 ≤ (t183 : Int) := of_decide_eq_true (z_7)
      have q188 : t183 < (l0.length : Int) := of_decide_eq_true (z_7)
      obtain ⟨ad188, e188, hx188_0, hx188_1, hx188_2, hx188_3, hx188_4, hx188_5⟩ := at_T83 HR0.out t183 p188 q188
      have hw188_5 := hx188_5
      have hw188_4 := hx188_4
      have hw188_3 := hx188_3
      have hw188_2 := hx188_2
      have hw188_1 := hx188_1
      have hw188_0 := hx188_0
      cases e188
      replace hx188_0 := pw_cell_below HB.out hx188_0
      replace hx188_1 := pw_cell_below HB.out hx188_1
      replace hx188_2 := pw_cell_below HB.out hx188_2
      replace hx188_3 := pw_cell_below HB.out hx188_3
      replace hx188_4 := pw_cell_below HB.out hx188_4
      replace hx188_5 := pw_cell_below HB.out hx188_5
      replace p188 := eq_true p188
      replace q188 := eq_true q188
      refine start_ (n := 10) (S := fun w' => w'.cell? (ad188.add ((t183).toNat * 6)) = some (.string ((rd_T83 l0 t183).f0.f0)) ∧ w'.cell? ⟨(ad188.add ((t183).toNat * 6)).block, (ad188.add ((t183).toNat * 6)).off + 1, none⟩ = some (.int .i64 ((rd_T83 l0 t183).f0.f1)) ∧ w'.cell? ⟨(ad188.add ((t183).toNat * 6)).block, (ad188.add ((t183).toNat * 6)).off + 2, none⟩ = some (.int .i64 ((rd_T83 l0 t183).f0.f2)) ∧ w'.cell? ⟨(ad188.add ((t183).toNat * 6)).block, (ad188.add ((t183).toNat * 6)).off + 3, none⟩ = some (.string ((rd_T83 l0 t183).f0.f3)) ∧ w'.cell? ⟨(ad188.add ((t183).toNat * 6)).block, (ad188.add ((t183).toNat * 6)).off + 4, none⟩ = some (.int .i64 ((rd_T83 l0 t183).f0.f4)) ∧ w'.cell? ⟨(ad188.add ((t183).toNat * 6)).block, (ad188.add ((t183).toNat * 6)).off + 5, none⟩ = some (.int .i64 ((rd_T83 l0 t183).f1))) (ds := []) #[F,F,F,F,F,F,F,F,F,F] (z_0) rfl rfl ⟨(pw_cell_below HB.out hw188_0), (pw_cell_below HB.out hw188_1), (pw_cell_below HB.out hw188_2), (pw_cell_below HB.out hw188_3), (pw_cell_below HB.out hw188_4), (pw_cell_below HB.out hw188_5)⟩ (fun hHeld => ?_); refine with_tabW impl_keep.tab3 impl_keep.bits3 (fun HT_ HW_ => ?_)
      generalize wc.drew = w16 at BK182 HB hx188_0 hx188_1 hx188_2 hx188_3 hx188_4 hx188_5 hHeld ⊢
      refine pure_ (i := 0) (N := some 28) (v := ?_) (a' := ?_) #[T,F,F,F,F,F,F,F,F,F] rfl rfl (any_of HT_.out (z_0)) (fun _ _ _ h => h) (Or.inl ⟨z_1, ?_⟩) ?_ ?_
      rotate_left
      ·intro w'
       go_simp
       with_reducible rfl
      rotate_left
      ·simp only [Act.put, List.setIfInBounds_toArray, List.set_cons_zero, List.set_cons_succ, i64_w, i32_w]
       rfl
      refine pure_ (i := 2) (N := some 30) (v := ?_) (a' := ?_) #[T,F,T,F,F,F,F,F,F,F] rfl rfl (any_of HT_.out (z_0)) (fun _ _ _ h => h) (Or.inl ⟨z_1, ?_⟩) ?_ ?_
      rotate_left
      ·intro w'
       go_simp
       with_reducible rfl
      rotate_left
      ·simp only [Act.put, List.setIfInBounds_toArray, List.set_cons_zero, List.set_cons_succ, i64_w, i32_w]
       rfl
      refine pure_ (i := 3) (N := some 31) (v := ?_) (a' := ?_) #[T,F,T,T,F,F,F,F,F,F] rfl rfl (any_of HT_.out (z_0)) (fun _ _ _ h => h) (Or.inl ⟨z_1, ?_⟩) ?_ ?_
      rotate_left
      ·intro w'
       go_simp
       with_reducible rfl
      rotate_left
      ·simp only [Act.put, List.setIfInBounds_toArray, List.set_cons_zero, List.set_cons_succ, i64_w, i32_w]
       rfl
      refine pure_ (i := 4) (N := some 32) (v := ?_) (a' := ?_) #[T,F,T,T,T,F,F,F,F,F] rfl rfl (any_of HT_.out (z_0)) (fun _ _ _ h => h) (Or.inl ⟨z_1, ?_⟩) ?_ ?_
      rotate_left
      ·intro w'
       go_simp
       with_reducible rfl
      rotate_left
      ·simp only [Act.put, List.setIfInBounds_toArray, List.set_cons_zero, List.set_cons_succ, i64_w, i32_w]
       rfl
      refine pure_ (i := 5) (N := some 33) (v := ?_) (a' := ?_) #[T,F,T,T,T,T,F,F,F,F] rfl rfl (any_of HT_.out (z_0)) (fun _ _ _ h => h) (Or.inl ⟨z_1, ?_⟩) ?_ ?_
      rotate_left
      ·intro w'
       go_simp
       with_reducible rfl
      rotate_left
      ·simp only [Act.put, List.setIfInBounds_toArray, List.set_cons_zero, List.set_cons_succ, i64_w, i32_w]
       rfl
      refine take_ (i := 6) (N := some 34) (v := ?_) (a' := ?_) #[T,F,T,T,T,T,T,F,F,F] rfl rfl (take_ofW HT_.out HW_.out (z_0)) (fun _ _ _ h => h) (Or.inl ⟨z_1, ?_⟩) hHeld ?_ ?_
      rotate_left
      ·rintro w' ⟨s0, s1, s2, s3, s4, s5⟩
       go_simp
       with_reducible rfl
      rotate_left
      ·simp only [Act.put, List.setIfInBounds_toArray, List.set_cons_zero, List.set_cons_succ, i64_w, i32_w]
       rfl
      refine one_ (i := 1) (N := some 29) #[T,T,T,T,T,T,T,F,F,F] rfl rfl (one_of HT_.out (z_0)) (z_5) (fun K hK => ?_)
      refine goes_ Try.func75 (z_0) rfl #[.slice (some ad188) l0.length c0] (z_1) rfl rfl (z_14) ?_
      with_reducible refine (impl_Kept_75.calls _ _ l0 t185 _ ?side1 ?side2 A13.out).mono ?_
      (case side1 => exact z_33)
      (case side2 => exact HC0.out)
      rintro e w17 ⟨v186, rfl, ho0, hb⟩
      refine ⟨_, rfl, ?_⟩
      have n0_ := Aside0.mk (Kd.R_lower ho0 (below_size (z_36)))
      have n1_ := Aside0.mk (blk_below (g := gb182) (o := .cells #[.string (⟨#[]⟩ : ByteArray), .int .i64 0, .int .i64 0, .string (⟨#[]⟩ : ByteArray), .int .i64 0] 26 (0, 0)) (z_35) hb)
      have n2_ := Aside0.mk (below_step (z_36) hb)
      clear BK182
      clear HB
      have HO187 := n0_
      have BK182 := n1_
      have HB := n2_
      clear n0_ n1_ n2_
      (try clear hb)
      (try clear hb2)
      (try clear hk)
      (try clear hi)
      (try clear ho0)
      refine hK.out _ _ ⟨(pw_cell_below HB.out hw188_0), (pw_cell_below HB.out hw188_1), (pw_cell_below HB.out hw188_2), (pw_cell_below HB.out hw188_3), (pw_cell_below HB.out hw188_4), (pw_cell_below HB.out hw188_5)⟩ (fun hHeld => ?_)
      clear hK K
      refine norm_ (a' := ?_) ?_ ?_
      rotate_left
      ·show Act.put _ (some 29) _ = _
       simp only [Act.put, List.setIfInBounds_toArray, List.set_cons_zero, List.set_cons_succ, i64_w, i32_w]
       rfl
      refine pure_ (i := 7) (N := some 8) (v := ?_) (a' := ?_) #[T,T,T,T,T,T,T,T,F,F] rfl rfl (any_of HT_.out (z_0)) (fun _ _ _ h => h) (Or.inl ⟨z_1, ?_⟩) ?_ ?_
      rotate_left
      ·intro w'
       go_simp
       with_reducible rfl
      rotate_left
      ·simp only [Act.put, List.setIfInBounds_toArray, List.set_cons_zero, List.set_cons_succ, i64_w, i32_w]
       rfl
      refine one_ (i := 8) (N := none) #[T,T,T,T,T,T,T,T,T,F] rfl rfl (one_of HT_.out (z_0)) (z_5) (fun K hK => ?_)
      have hs18 : w17.cell? ⟨gb182, 0, none⟩ = some (.string (⟨#[]⟩ : ByteArray)) := (blk_cell BK182.out 0).trans rfl
      have hfs18 := blk_frozen BK182.out 0
      have hs19 : w17.cell? ⟨gb182, 1, none⟩ = some (.int .i64 0) := (blk_cell BK182.out 1).trans rfl
      have hfs19 := blk_frozen BK182.out 1
      have hs20 : w17.cell? ⟨gb182, 2, none⟩ = some (.int .i64 0) := (blk_cell BK182.out 2).trans rfl
      have hfs20 := blk_frozen BK182.out 2
      have hs21 : w17.cell? ⟨gb182, 3, none⟩ = some (.string (⟨#[]⟩ : ByteArray)) := (blk_cell BK182.out 3).trans rfl
      have hfs21 := blk_frozen BK182.out 3
      have hs22 : w17.cell? ⟨gb182, 4, none⟩ = some (.int .i64 0) := (blk_cell BK182.out 4).trans rfl
      have hfs22 := blk_frozen BK182.out 4
      refine skip_ (w1 := ?_) (z_1) rfl ?_ ?_
      rotate_left
      ·go_simp
       rfl
      refine hK.out _ _ ⟨((cell_far (p := ⟨gb182, _, none⟩) (z_38) _).trans (((cell_far (p := ⟨gb182, _, none⟩) (z_38) _).trans (((cell_far (p := ⟨gb182, _, none⟩) (z_38) _).trans (((cell_far (p := ⟨gb182, _, none⟩) (z_38) _).trans (((cell_far (p := ⟨gb182, _, none⟩) (z_38) _).trans (hHeld.1)))))))))), ((cell_far (p := ⟨gb182, _, none⟩) (z_40) _).trans (((cell_far (p := ⟨gb182, _, none⟩) (z_40) _).trans (((cell_far (p := ⟨gb182, _, none⟩) (z_40) _).trans (((cell_far (p := ⟨gb182, _, none⟩) (z_40) _).trans (((cell_far (p := ⟨gb182, _, none⟩) (z_40) _).trans (hHeld.2.1)))))))))), ((cell_far (p := ⟨gb182, _, none⟩) (z_42) _).trans (((cell_far (p := ⟨gb182, _, none⟩) (z_42) _).trans (((cell_far (p := ⟨gb182, _, none⟩) (z_42) _).trans (((cell_far (p := ⟨gb182, _, none⟩) (z_42) _).trans (((cell_far (p := ⟨gb182, _, none⟩) (z_42) _).trans (hHeld.2.2.1)))))))))), ((cell_far (p := ⟨gb182, _, none⟩) (z_44) _).trans (((cell_far (p := ⟨gb182, _, none⟩) (z_44) _).trans (((cell_far (p := ⟨gb182, _, none⟩) (z_44) _).trans (((cell_far (p := ⟨gb182, _, none⟩) (z_44) _).trans (((cell_far (p := ⟨gb182, _, none⟩) (z_44) _).trans (hHeld.2.2.2.1)))))))))), ((cell_far (p := ⟨gb182, _, none⟩) (z_46) _).trans (((cell_far (p := ⟨gb182, _, none⟩) (z_46) _).trans (((cell_far (p := ⟨gb182, _, none⟩) (z_46) _).trans (((cell_far (p := ⟨gb182, _, none⟩) (z_46) _).trans (((cell_far (p := ⟨gb182, _, none⟩) (z_46) _).trans (hHeld.2.2.2.2.1)))))))))), ((cell_far (p := ⟨gb182, _, none⟩) (z_48) _).trans (((cell_far (p := ⟨gb182, _, none⟩) (z_48) _).trans (((cell_far (p := ⟨gb182, _, none⟩) (z_48) _).trans (((cell_far (p := ⟨gb182, _, none⟩) (z_48) _).trans (((cell_far (p := ⟨gb182, _, none⟩) (z_48) _).trans (hHeld.2.2.2.2.2))))))))))⟩ (fun hHeld => ?_)
      clear hK K
      refine pure_ (i := 9) (N := some 10) (v := ?_) (a' := ?_) #[T,T,T,T,T,T,T,T,T,T] rfl rfl (any_of HT_.out (z_0)) (fun _ _ _ h => h) (Or.inl ⟨z_1, ?_⟩) ?_ ?_
      rotate_left
      ·intro w'
       go_simp
       with_reducible rfl
      rotate_left
      ·simp only [Act.put, List.setIfInBounds_toArray, List.set_cons_zero, List.set_cons_succ, i64_w, i32_w]
       rfl
      refine done_ (done_of HT_.out (z_0)) ?_
      try go_wp2
      refine bodyPost_ret (results_list (rs := [.tmp 8, .cell 9 26, .tmp 10]) rfl (z_12) (.tmp (.cell gb182 26 #[.string ((rd_T83 l0 t183).f0.f0), .int .i64 ((rd_T83 l0 t183).f0.f1), .int .i64 ((rd_T83 l0 t183).f0.f2), .string ((rd_T83 l0 t183).f0.f3), .int .i64 ((rd_T83 l0 t183).f0.f4)] (0, 0) _ rfl (by (with_reducible repeat (first | refine blk_drewN ?_ _ | refine blk_drew ?_ | refine blk_alloc ?_ _)); refine blk_put (cs := #[.string ((rd_T83 l0 t183).f0.f0), .int .i64 ((rd_T83 l0 t183).f0.f1), .int .i64 ((rd_T83 l0 t183).f0.f2), .string ((rd_T83 l0 t183).f0.f3), .int .i64 0]) ?_ 4 _ rfl; (with_reducible repeat (first | refine blk_drewN ?_ _ | refine blk_drew ?_ | refine blk_alloc ?_ _)); refine blk_put (cs := #[.string ((rd_T83 l0 t183).f0.f0), .int .i64 ((rd_T83 l0 t183).f0.f1), .int .i64 ((rd_T83 l0 t183).f0.f2), .string (⟨#[]⟩ : ByteArray), .int .i64 0]) ?_ 3 _ rfl; (with_reducible repeat (first | refine blk_drewN ?_ _ | refine blk_drew ?_ | refine blk_alloc ?_ _)); refine blk_put (cs := #[.string ((rd_T83 l0 t183).f0.f0), .int .i64 ((rd_T83 l0 t183).f0.f1), .int .i64 0, .string (⟨#[]⟩ : ByteArray), .int .i64 0]) ?_ 2 _ rfl; (with_reducible repeat (first | refine blk_drewN ?_ _ | refine blk_drew ?_ | refine blk_alloc ?_ _)); refine blk_put (cs := #[.string ((rd_T83 l0 t183).f0.f0), .int .i64 0, .int .i64 0, .string (⟨#[]⟩ : ByteArray), .int .i64 0]) ?_ 1 _ rfl; (with_reducible repeat (first | refine blk_drewN ?_ _ | refine blk_drew ?_ | refine blk_alloc ?_ _)); refine blk_put (cs := #[.string (⟨#[]⟩ : ByteArray), .int .i64 0, .int .i64 0, .string (⟨#[]⟩ : ByteArray), .int .i64 0]) ?_ 0 _ rfl; (with_reducible repeat (first | refine blk_drewN ?_ _ | refine blk_drew ?_ | refine blk_alloc ?_ _)); exact BK182.out) Try.underlying26 rfl (z_0) (.tmp .nil)))) rfl ?_
      exact ⟨_, z_13, by (with_reducible repeat (first | apply Kd.R_alloc | apply Kd.R_drewN | apply Kd.R_drew)); exact Kd.R_mono (Kd.R_far (p := ⟨gb182, 4, none⟩) (Kd.R_far (p := ⟨gb182, 3, none⟩) (Kd.R_far (p := ⟨gb182, 2, none⟩) (Kd.R_far (p := ⟨gb182, 1, none⟩) (Kd.R_far (p := ⟨gb182, 0, none⟩) (Kd.R_types HO187.out BK182.out (z_5)) (fun _ hk => hk.2) (.string ((rd_T83 l0 t183).f0.f0))) (fun _ hk => hk.2) (.int .i64 ((rd_T83 l0 t183).f0.f1))) (fun _ hk => hk.2) (.int .i64 ((rd_T83 l0 t183).f0.f2))) (fun _ hk => hk.2) (.string ((rd_T83 l0 t183).f0.f3))) (fun _ hk => hk.2) (.int .i64 ((rd_T83 l0 t183).f0.f4))) (fun _ hk => trivial), z_36⟩
     ·rw [if_neg c15] at H
      exact absurd H (z_12)
    ·rw [if_neg c14] at H
     exact absurd H (z_12)
   ·replace c12 := Bool.eq_false_iff.mpr c12
    subst c12
    rw [if_neg (show ¬ (false = true) by decide)] at H
    replace H := Option.bind_eq_some_iff.mp H
    obtain ⟨⟨t189, t190, t191, t192, t193⟩, A230, H⟩ := H
    replace H : ((impl_Kept_84.f l0).bind fun t195 => (if t183 ≥ 0 then ((impl_Kept_85.f kj5 t195 t183 (wrap64 (t183 + 1))).bind fun t198 => (if t198.length < 2199023255552 then ((some (t198 ++ [(⟨(⟨t189, t190, t191, t192, t193⟩ : S26), wrap64 (a3 + t193)⟩ : S83)] : List (S83))).bind fun y201 => (if 0 ≤ (mx 0 (wrap64 ((y201.length : Int) - 5))) then (if (mx 0 (wrap64 ((y201.length : Int) - 5))) ≤ (y201.length : Int) then ((impl_Kept_75.f (y201.drop ((mx 0 (wrap64 ((y201.length : Int) - 5))) : Int).toNat)).bind fun t208 => (some (t208, t189, t190, t191, t192, t193, false))) else (none)) else (none))) else (none))) else (if t195.length < 2199023255552 then ((some (t195 ++ [(⟨(⟨t189, t190, t191, t192, t193⟩ : S26), wrap64 (a3 + t193)⟩ : S83)] : List (S83))).bind fun y211 => (if 0 ≤ (mx 0 (wrap64 ((y211.length : Int) - 5))) then (if (mx 0 (wrap64 ((y211.length : Int) - 5))) ≤ (y211.length : Int) then ((impl_Kept_75.f (y211.drop ((mx 0 (wrap64 ((y211.length : Int) - 5))) : Int).toNat)).bind fun t218 => (some (t218, t189, t190, t191, t192, t193, false))) else (none)) else (none))) else (none)))) = some (r1, r2, r3, r4, r5, r6, r7) := H
    have A23 := Aside0.mk A230
    clear A230
    replace H := Option.bind_eq_some_iff.mp H
    obtain ⟨t195, A240, H⟩ := H
    have A24 := Aside0.mk A240
    clear A240
    by_cases c25 : t183 ≥ 0
    ·rw [if_pos c25] at H
     have c25b0 : decide (0 ≤ t183) = true := decide_eq_true c25
     clear c25
     replace H := Option.bind_eq_some_iff.mp H
     obtain ⟨t198, A260, H⟩ := H
     have A26 := Aside0.mk A260
     clear A260
     by_cases c27 : t198.length < 2199023255552
     ·rw [if_pos c27] at H
      have LMc27 := Aside0.mk c27
      clear c27
      obtain ⟨y201, hy201⟩ : ∃ y_ : List (S83), y_ = (t198 ++ [(⟨(⟨t189, t190, t191, t192, t193⟩ : S26), wrap64 (a3 + t193)⟩ : S83)]) := ⟨_, rfl⟩
      replace H : (if 0 ≤ (mx 0 (wrap64 ((y201.length : Int) - 5))) then (if (mx 0 (wrap64 ((y201.length : Int) - 5))) ≤ (y201.length : Int) then ((impl_Kept_75.f (y201.drop ((mx 0 (wrap64 ((y201.length : Int) - 5))) : Int).toNat)).bind fun t208 => (some (t208, t189, t190, t191, t192, t193, false))) else (none)) else (none)) = some (r1, r2, r3, r4, r5, r6, r7) := by first | (rw [hy201]; with_reducible exact H) | (have H2_ := (Option.bind_some _ _).symm.trans H; rw [hy201]; with_reducible exact H2_) | (have H2_ := (Option.bind_some _ _).symm.trans H; with_reducible exact H2_) | with_reducible exact H | (rw [hy201]; exact H) | exact H
      have Ny201 := Aside0.mk hy201
      clear hy201
      obtain ⟨ji28, hji28⟩ : ∃ j_ : Int, (mx 0 (wrap64 ((y201.length : Int) - 5))) = j_ := ⟨_, rfl⟩
      replace H : (if 0 ≤ (ji28) then (if (ji28) ≤ (y201.length : Int) then ((impl_Kept_75.f (y201.drop ((ji28) : Int).toNat)).bind fun t208 => (some (t208, t189, t190, t191, t192, t193, false))) else (none)) else (none)) = some (r1, r2, r3, r4, r5, r6, r7) := by first | (rw [hji28] at H; exact H) | (simp only [hji28] at H ⊢; exact H)
      (try rw [hji28] at A23)
      (try rw [hji28] at A24)
      (try rw [hji28] at A26)
      (try (have hji28l : 0 ≤ ji28 := by (rw [← hji28]; unfold mx; (repeat' split) <;> omega)))
      (try (have hji28m : 0 ≤ ji28 := z_6))
      have hji28_ : (if 0 < (wrap64 ((y201.length : Int) - 5)) then (wrap64 ((y201.length : Int) - 5)) else 0) = ji28 := hji28
      by_cases c29 : 0 ≤ (ji28)
      ·rw [if_pos c29] at H
       have c29b0 := eq_true c29
       have c29b1 : decide (0 ≤ (ji28)) = true := decide_eq_true c29
       clear c29
       by_cases c30 : (ji28) ≤ (y201.length : Int)
       ·rw [if_pos c30] at H
        have c30b0 := eq_true c30
        have c30b1 : decide ((ji28) ≤ (y201.length : Int)) = true := decide_eq_true c30
        clear c30
        obtain ⟨y204, hy204⟩ : ∃ y_ : List (S83), y_ = (y201.drop ((ji28) : Int).toNat) := ⟨_, rfl⟩
        replace H : ((impl_Kept_75.f y204).bind fun t208 => (some (t208, t189, t190, t191, t192, t193, false))) = some (r1, r2, r3, r4, r5, r6, r7) := by first | (rw [hy204]; with_reducible exact H) | (have H2_ := (Option.bind_some _ _).symm.trans H; rw [hy204]; with_reducible exact H2_) | (have H2_ := (Option.bind_some _ _).symm.trans H; with_reducible exact H2_) | with_reducible exact H | (rw [hy204]; exact H) | exact H
        have Ny204 := Aside0.mk hy204
        clear hy204
        replace H := Option.bind_eq_some_iff.mp H
        obtain ⟨t208, A310, H⟩ := H
        have A31 := Aside0.mk A310
        clear A310
        simp only [Option.some.injEq, Prod.mk.injEq] at H
        obtain ⟨rfl, rfl, rfl, rfl, rfl, rfl, rfl⟩ := H
        try go_wp2_with (first | ((with_reducible refine gate_callee (f := 63) rfl ?_); refine goesL_ (some 37) rfl rfl Try.func63 (z_0) rfl #[.slice A1 l1.length c1, .string a2] rfl (z_14) ?_; (with_reducible refine (impl_ask.calls kj5 _ _ l1 a2 t189 t190 t191 t192 t193 _ ?side1 ?side2 A23.out).mono ?_); (case side1 => exact z_32); (case side2 => exact HC1.out); rintro e w32 ⟨rfl, hb⟩; refine ⟨_, rfl, ?_⟩; have n0_ := Aside0.mk (blk_below (g := gb182) (o := .cells #[.string (⟨#[]⟩ : ByteArray), .int .i64 0, .int .i64 0, .string (⟨#[]⟩ : ByteArray), .int .i64 0] 26 (0, 0)) (z_35) hb); have n1_ := Aside0.mk (below_step (z_36) hb); clear BK182; clear HB; have BK182 := n0_; have HB := n1_; clear n0_ n1_; (try clear hb); (try clear hb2); (try clear hk); (try clear hi)) | ((with_reducible refine gate_dst (N := 12) rfl ?_); refine box_event ?hg (N := 12) ?hd (cs := #[.string (⟨#[]⟩ : ByteArray), .int .i64 0, .int .i64 0, .string (⟨#[]⟩ : ByteArray), .int .i64 0]) (t := 26) ?hr ?_; (case hd => rfl); (case hg => rfl); (case hr => exact z_9); intro gb194 hg w33 hbox hb; have n0_ := Aside0.mk (blk_below (g := gb182) (o := .cells #[.string (⟨#[]⟩ : ByteArray), .int .i64 0, .int .i64 0, .string (⟨#[]⟩ : ByteArray), .int .i64 0] 26 (0, 0)) (z_35) hb); have n1_ := Aside0.mk (below_step (z_36) hb); have n2_ := Aside0.mk (hbox); have n3_ := Aside0.mk ((z_49 : w.heap.size ≤ gb194)); have n4_ := Aside0.mk ((z_49 : w.heap.size ≤ gb194)); have n5_ := Aside0.mk ((z_50 : gb182 ≠ gb194)); have n6_ := Aside0.mk ((z_51 : gb194 ≠ gb182)); clear BK182; clear HB; have BK182 := n0_; have HB := n1_; have BK194 := n2_; have GW194 := n3_; have GE194 := n4_; have NB182_194 := n5_; have NB194_182 := n6_; clear n0_ n1_ n2_ n3_ n4_ n5_ n6_; clear hb hbox hg; have hnb34 := NB194_182.out; have hnc34 := NB182_194.out; have hcz35_0 : w33.cell? ⟨gb194, 0, none⟩ = some (.string (⟨#[]⟩ : ByteArray)) := (blk_cell BK194.out 0).trans rfl; have hcz35_1 : w33.cell? ⟨gb194, 1, none⟩ = some (.int .i64 0) := (blk_cell BK194.out 1).trans rfl; have hcz35_2 : w33.cell? ⟨gb194, 2, none⟩ = some (.int .i64 0) := (blk_cell BK194.out 2).trans rfl; have hcz35_3 : w33.cell? ⟨gb194, 3, none⟩ = some (.string (⟨#[]⟩ : ByteArray)) := (blk_cell BK194.out 3).trans rfl; have hcz35_4 : w33.cell? ⟨gb194, 4, none⟩ = some (.int .i64 0) := (blk_cell BK194.out 4).trans rfl; have hfz35_0 := blk_frozen BK194.out 0; have hfz35_1 := blk_frozen BK194.out 1; have hfz35_2 := blk_frozen BK194.out 2; have hfz35_3 := blk_frozen BK194.out 3; have hfz35_4 := blk_frozen BK194.out 4) | ((with_reducible refine gate_callee (f := 84) rfl ?_); refine goesL_ (some 39) rfl rfl Try.func84 (z_0) rfl #[.slice A0 l0.length c0] rfl (z_14) ?_; (with_reducible refine (impl_Kept_84.calls _ _ l0 t195 _ ?side1 ?side2 A24.out).mono ?_); (case side1 => exact z_53); (case side2 => exact HC0.out); rintro e w36 ⟨v196, rfl, ho0, hb⟩; refine ⟨_, rfl, ?_⟩; have n0_ := Aside0.mk (Kd.R_lower ho0 (below_size (z_52))); have n1_ := Aside0.mk (blk_below (g := gb182) (o := .cells #[.string (⟨#[]⟩ : ByteArray), .int .i64 0, .int .i64 0, .string (⟨#[]⟩ : ByteArray), .int .i64 0] 26 (0, 0)) (z_54) hb); have n2_ := Aside0.mk (blk_below (g := gb194) (o := .cells #[.string t189, .int .i64 t190, .int .i64 t191, .string t192, .int .i64 t193] 26 (0, 0)) (z_55) hb); have n3_ := Aside0.mk (below_step (z_52) hb); clear BK182; clear BK194; clear HB; have HO197 := n0_; have BK182 := n1_; have BK194 := n2_; have HB := n3_; clear n0_ n1_ n2_ n3_; (try clear hb); (try clear hb2); (try clear hk); (try clear hi); (try clear ho0); obtain ⟨Ao37, co37, eo37⟩ := Kd.R_slice HO197.out; subst eo37) | ((with_reducible refine gate_callee (f := 85) rfl ?_); refine goesL_ (some 46) rfl rfl Try.func85 (z_0) rfl #[.slice Ao37 t195.length co37, .int .i64 t183, .int .i64 (wrap64 (t183 + 1))] rfl (z_14) ?_; (with_reducible refine (impl_Kept_85.calls kj5 (fun k_ => some k_ = (.slice Ao37 t195.length co37 : Value).ownBlock) (.slice Ao37 t195.length co37) t195 t183 (wrap64 (t183 + 1)) t198 w _ ?side1 ?side2 A26.out).mono ?_); (case side1 => exact z_52); (case side2 => exact Kd.R_tight rfl HO197.out); rintro e w38 ⟨v199, rfl, ho0, hb, hkp⟩; refine ⟨_, rfl, ?_⟩; have n0_ := Aside0.mk (blk_kept (z_35) hkp (fun hs_ => (fun e_ => (Kd.R_ne HO197.out BK182.out (z_5)) e_) hs_)); have n1_ := Aside0.mk (blk_kept (z_56) hkp (fun hs_ => (fun e_ => (Kd.R_ne HO197.out BK194.out (z_5)) e_) hs_)); have n2_ := Aside0.mk (Kd.R_mono (ok' := fun k_ => True) ho0 (fun k_ hk_ => trivial)); have n3_ := Aside0.mk (hb); clear BK182; clear BK194; clear HB; clear HO197; have BK182 := n0_; have BK194 := n1_; have HO200 := n2_; have HB := n3_; clear n0_ n1_ n2_ n3_; (try clear hb); (try clear hkp); (try clear ho0); have hcz39_0 : w38.cell? ⟨gb194, 0, none⟩ = some (.string t189) := (blk_cell BK194.out 0).trans rfl; have hcz39_1 : w38.cell? ⟨gb194, 1, none⟩ = some (.int .i64 t190) := (blk_cell BK194.out 1).trans rfl; have hcz39_2 : w38.cell? ⟨gb194, 2, none⟩ = some (.int .i64 t191) := (blk_cell BK194.out 2).trans rfl; have hcz39_3 : w38.cell? ⟨gb194, 3, none⟩ = some (.string t192) := (blk_cell BK194.out 3).trans rfl; have hcz39_4 : w38.cell? ⟨gb194, 4, none⟩ = some (.int .i64 t193) := (blk_cell BK194.out 4).trans rfl; have hfz39_0 := blk_frozen BK194.out 0; have hfz39_1 := blk_frozen BK194.out 1; have hfz39_2 := blk_frozen BK194.out 2; have hfz39_3 := blk_frozen BK194.out 3; have hfz39_4 := blk_frozen BK194.out 4) | ((with_reducible refine gate_builtin (b := .append) (xs := #[.tmp 47, .tmp 54]) rfl ?_); at_builtin; refine Kd.R_append k83 (w0 := w) w.heap.size rfl (.tmp 47) (.tmp 54) 48 83 (.agg #[(.string ⟨#[]⟩), (.int .i64 0), (.int .i64 0), (.string ⟨#[]⟩), (.int .i64 0), (.int .i64 0)]) 64 rfl Try.underlying48 info83 rfl (z_5) (z_6) v199 t198 (⟨(⟨t189, t190, t191, t192, t193⟩ : S26), wrap64 (a3 + t193)⟩ : S83) [.string t189, .int .i64 t190, .int .i64 t191, .string t192, .int .i64 t193, .int .i64 (wrap64 (a3 + t193))] (fun _ => True) (fun _ => False) rfl rfl ?aP (fun _ hk => hk.elim) ?aF ?aO ?aB ?aS ?aL ?_; (case aP => exact k83_mkM _ _ _ (⟨(⟨t189, t190, t191, t192, t193⟩ : S26), wrap64 (a3 + t193)⟩ : S83)); (case aB => exact z_57); (case aF => exact z_34); (case aO => exact (by (with_reducible repeat (first | apply Kd.R_alloc | apply Kd.R_drewN | apply Kd.R_drew)); exact HO200.out)); (case aS => exact z_58); (case aL => have := LMc27.out; omega); intro v202 w40 ho hb hg hat; rw [← Ny201.out] at ho; have n0_ := Aside0.mk (blk_grown (g := gb182) (o := .cells #[.string (⟨#[]⟩ : ByteArray), .int .i64 0, .int .i64 0, .string (⟨#[]⟩ : ByteArray), .int .i64 0] 26 (0, 0)) (z_35) hg (Kd.R_ne HO200.out BK182.out (z_5))); have n1_ := Aside0.mk (blk_grown (g := gb194) (o := .cells #[.string t189, .int .i64 t190, .int .i64 t191, .string t192, .int .i64 t193] 26 (0, 0)) (z_56) hg (Kd.R_ne HO200.out BK194.out (z_5))); have n2_ := Aside0.mk (hb); have n3_ := Aside0.mk (ho); clear BK182; clear BK194; clear HB; clear HO200; have BK182 := n0_; have BK194 := n1_; have HB := n2_; have HO203 := n3_; clear n0_ n1_ n2_ n3_; clear ho hb hg hat))
        have n0_ := Aside0.mk (Kd.R_drew HO203.out)
        have n1_ := Aside0.mk (blk_drew BK182.out)
        have n2_ := Aside0.mk (blk_drew BK194.out)
        have n3_ := Aside0.mk (below_drew1 HB.out)
        clear HO203
        clear BK182
        clear BK194
        clear HB
        have HO203 := n0_
        have BK182 := n1_
        have BK194 := n2_
        have HB := n3_
        clear n0_ n1_ n2_ n3_
        obtain ⟨Ao42, co42, eo42⟩ := Kd.R_slice HO203.out
        (first | subst eo42 | (injection eo42 with f1_ f2_ f3_; have f4_ := f1_.symm; have f5_ := f3_.symm; clear f1_ f2_ f3_; subst f4_; subst f5_))
        have q43 : ((ji28) : Int) ≤ ((y201.length : Int) : Int) := of_decide_eq_true (z_7)
        obtain ⟨i043, hi043, _, hsz43, _⟩ := info_parts info83
        have hroom43 : y201.length ≤ co42 := (Kd.R_reads' HO203.out).2.1
        have hC43 : Kd.C k83 _ Ao42 y201.length y201 := (Kd.R_reads' HO203.out).2.2
        have q043 : (0 : Int) ≤ ((ji28) : Int) := of_decide_eq_true (z_7)
        have hcut43 := cut_from (P := Try.prog) 48 83 .i64 Try.underlying48 hi043 6 hsz43 Ao42 y201.length co42 (ji28) q043 q43
        have hr43 := Kd.C_drop (m := ((ji28) : Int).toNat) (c := co42) hC43 (z_6) hroom43
        obtain ⟨A43, hA43⟩ : ∃ A1, A1 = (if co42 = ((ji28) : Int).toNat then Ao42 else (Ao42 : Option Addr).map (·.add (((ji28) : Int).toNat * 6))) := ⟨_, rfl⟩
        obtain ⟨c43, hc43⟩ : ∃ c1, c1 = co42 - ((ji28) : Int).toNat := ⟨_, rfl⟩
        have hy43 : y204.length = y201.length - ((ji28) : Int).toNat := (by rw [Ny204.out, List.length_drop] <;> omega)
        rw [show (y201).drop ((ji28) : Int).toNat = y204 from Ny204.out.symm] at hr43
        replace hr43 : Kd.C k83 _ A43 y204.length y204 := (by rw [hA43]; exact hr43)
        rw [← hy43, ← hA43, ← hc43] at hcut43
        have HR207 := Aside0.mk hr43
        have HC207 := Aside0.mk (show y204.length ≤ c43 from by rw [hy43, hc43]; exact Nat.sub_le_sub_right hroom43 _)
        clear hr43 hC43 hroom43 hi043 hsz43 hc43
        have KY43 := Aside0.mk hy43
        have KA43 := Aside0.mk hA43
        clear hy43 hA43
        have KL43 := Aside0.mk (show ((ji28) : Int).toNat ≤ y201.length from z_6)
        replace q43 := eq_true q43
        refine start_ (n := 11) (S := fun w' => w'.cell? ⟨gb194, 0, none⟩ = some (.string t189) ∧ w'.cell? ⟨gb194, 1, none⟩ = some (.int .i64 t190) ∧ w'.cell? ⟨gb194, 2, none⟩ = some (.int .i64 t191) ∧ w'.cell? ⟨gb194, 3, none⟩ = some (.string t192) ∧ w'.cell? ⟨gb194, 4, none⟩ = some (.int .i64 t193)) (ds := []) #[F,F,F,F,F,F,F,F,F,F,F] (z_0) rfl rfl ⟨(blk_cell BK194.out 0).trans rfl, (blk_cell BK194.out 1).trans rfl, (blk_cell BK194.out 2).trans rfl, (blk_cell BK194.out 3).trans rfl, (blk_cell BK194.out 4).trans rfl⟩ (fun hHeld => ?_); refine with_tabW impl_keep.tab9 impl_keep.bits9 (fun HT_ HW_ => ?_)
        generalize w40.drew = w41 at HO203 BK182 BK194 HB HR207 hHeld ⊢
        refine pure_ (i := 0) (N := some 56) (v := ?_) (a' := ?_) #[T,F,F,F,F,F,F,F,F,F,F] rfl rfl (any_of HT_.out (z_0)) (fun _ _ _ h => h) (Or.inl ⟨z_1, ?_⟩) ?_ ?_
        rotate_left
        ·intro w'
         go_simp
         with_reducible rfl
        rotate_left
        ·simp only [Act.put, List.setIfInBounds_toArray, List.set_cons_zero, List.set_cons_succ, i64_w, i32_w]
         rfl
        refine pure_ (i := 1) (N := some 57) (v := ?_) (a' := ?_) #[T,T,F,F,F,F,F,F,F,F,F] rfl rfl (any_of HT_.out (z_0)) (fun _ _ _ h => h) (Or.inl ⟨z_1, ?_⟩) ?_ ?_
        rotate_left
        ·intro w'
         go_simp
         with_reducible rfl
        rotate_left
        ·simp only [Act.put, List.setIfInBounds_toArray, List.set_cons_zero, List.set_cons_succ, i64_w, i32_w]
         rfl
        refine pure_ (i := 2) (N := some 58) (v := ?_) (a' := ?_) #[T,T,T,F,F,F,F,F,F,F,F] rfl rfl (any_of HT_.out (z_0)) (fun _ _ _ h => h) (Or.inl ⟨z_1, ?_⟩) ?_ ?_
        rotate_left
        ·intro w'
         go_simp
         with_reducible rfl
        rotate_left
        ·simp only [Act.put, List.setIfInBounds_toArray, List.set_cons_zero, List.set_cons_succ, i64_w, i32_w]
         rfl
        refine pure_ (i := 3) (N := some 59) (v := ?_) (a' := ?_) #[T,T,T,T,F,F,F,F,F,F,F] rfl rfl (any_of HT_.out (z_0)) (fun _ _ _ h => h) (Or.inl ⟨z_1, ?_⟩) ?_ ?_
        rotate_left
        ·intro w'
         go_simp
         with_reducible rfl
        rotate_left
        ·simp only [Act.put, List.setIfInBounds_toArray, List.set_cons_zero, List.set_cons_succ, i64_w, i32_w]
         rfl
        refine pure_ (i := 4) (N := some 60) (v := ?_) (a' := ?_) #[T,T,T,T,T,F,F,F,F,F,F] rfl rfl (any_of HT_.out (z_0)) (fun _ _ _ h => h) (Or.inl ⟨z_1, ?_⟩) ?_ ?_
        rotate_left
        ·intro w'
         go_simp
         with_reducible rfl
        rotate_left
        ·simp only [Act.put, List.setIfInBounds_toArray, List.set_cons_zero, List.set_cons_succ, i64_w, i32_w]
         rfl
        refine pure_ (i := 5) (N := some 61) (v := ?_) (a' := ?_) #[T,T,T,T,T,T,F,F,F,F,F] rfl rfl (any_of HT_.out (z_0)) (fun _ _ _ h => h) (Or.inl ⟨z_1, ?_⟩) ?_ ?_
        rotate_left
        ·intro w'
         go_simp
         with_reducible rfl
        rotate_left
        ·simp only [Act.put, List.setIfInBounds_toArray, List.set_cons_zero, List.set_cons_succ, i64_w, i32_w]
         rfl
        refine take_ (i := 7) (N := some 63) (v := ?_) (a' := ?_) #[T,T,T,T,T,T,F,T,F,F,F] rfl rfl (take_ofW HT_.out HW_.out (z_0)) (fun _ _ _ h => h) (Or.inl ⟨z_1, ?_⟩) hHeld ?_ ?_
        rotate_left
        ·rintro w' ⟨s0, s1, s2, s3, s4⟩
         go_simp
         with_reducible rfl
        rotate_left
        ·simp only [Act.put, List.setIfInBounds_toArray, List.set_cons_zero, List.set_cons_succ, i64_w, i32_w]
         rfl
        refine one_ (i := 6) (N := some 62) #[T,T,T,T,T,T,T,T,F,F,F] rfl rfl (one_of HT_.out (z_0)) (z_5) (fun K hK => ?_)
        refine goes_ Try.func75 (z_0) rfl #[.slice A43 y204.length c43] (z_1) rfl rfl (z_14) ?_
        with_reducible refine (impl_Kept_75.calls _ _ y204 t208 _ ?side1 ?side2 A31.out).mono ?_
        (case side1 => repeat (first | exact (z_59) | (with_reducible refine Kd.C_alloc ?_ _) | (with_reducible refine Kd.C_drewN ?_ _) | (with_reducible refine Kd.C_drew ?_)))
        (case side2 => exact HC207.out)
        rintro e w44 ⟨v209, rfl, ho0, hb⟩
        refine ⟨_, rfl, ?_⟩
        have n0_ := Aside0.mk (Kd.R_elder' (z_60) (Kd.R_base ho0) hb)
        have n1_ := Aside0.mk (Kd.R_lower (Kd.R_new' ho0 (Kd.R_lt (z_60))) (below_size (z_52)))
        have n2_ := Aside0.mk (blk_below (g := gb182) (o := .cells #[.string (⟨#[]⟩ : ByteArray), .int .i64 0, .int .i64 0, .string (⟨#[]⟩ : ByteArray), .int .i64 0] 26 (0, 0)) (z_35) hb)
        have n3_ := Aside0.mk (blk_below (g := gb194) (o := .cells #[.string t189, .int .i64 t190, .int .i64 t191, .string t192, .int .i64 t193] 26 (0, 0)) (z_56) hb)
        have n4_ := Aside0.mk (Kd.C_below (z_59) hb)
        have n5_ := Aside0.mk (below_step (z_52) hb)
        clear HO203
        clear BK182
        clear BK194
        clear HR207
        clear HB
        have HO203 := n0_
        have HO210 := n1_
        have BK182 := n2_
        have BK194 := n3_
        have HR207 := n4_
        have HB := n5_
        clear n0_ n1_ n2_ n3_ n4_ n5_
        (try clear hb)
        (try clear hb2)
        (try clear hk)
        (try clear hi)
        (try clear ho0)
        refine hK.out _ _ ⟨(blk_cell BK194.out 0).trans rfl, (blk_cell BK194.out 1).trans rfl, (blk_cell BK194.out 2).trans rfl, (blk_cell BK194.out 3).trans rfl, (blk_cell BK194.out 4).trans rfl⟩ (fun hHeld => ?_)
        clear hK K
        refine norm_ (a' := ?_) ?_ ?_
        rotate_left
        ·show Act.put _ (some 62) _ = _
         simp only [Act.put, List.setIfInBounds_toArray, List.set_cons_zero, List.set_cons_succ, i64_w, i32_w]
         rfl
        refine pure_ (i := 8) (N := some 8) (v := ?_) (a' := ?_) #[T,T,T,T,T,T,T,T,T,F,F] rfl rfl (any_of HT_.out (z_0)) (fun _ _ _ h => h) (Or.inl ⟨z_1, ?_⟩) ?_ ?_
        rotate_left
        ·intro w'
         go_simp
         with_reducible rfl
        rotate_left
        ·simp only [Act.put, List.setIfInBounds_toArray, List.set_cons_zero, List.set_cons_succ, i64_w, i32_w]
         rfl
        refine one_ (i := 9) (N := none) #[T,T,T,T,T,T,T,T,T,T,F] rfl rfl (one_of HT_.out (z_0)) (z_5) (fun K hK => ?_)
        have hs45 : w44.cell? ⟨gb182, 0, none⟩ = some (.string (⟨#[]⟩ : ByteArray)) := (blk_cell BK182.out 0).trans rfl
        have hfs45 := blk_frozen BK182.out 0
        have hns45_1 := NB194_182.out
        have hms45_1 := NB182_194.out
        have hs46 : w44.cell? ⟨gb182, 1, none⟩ = some (.int .i64 0) := (blk_cell BK182.out 1).trans rfl
        have hfs46 := blk_frozen BK182.out 1
        have hns46_1 := NB194_182.out
        have hms46_1 := NB182_194.out
        have hs47 : w44.cell? ⟨gb182, 2, none⟩ = some (.int .i64 0) := (blk_cell BK182.out 2).trans rfl
        have hfs47 := blk_frozen BK182.out 2
        have hns47_1 := NB194_182.out
        have hms47_1 := NB182_194.out
        have hs48 : w44.cell? ⟨gb182, 3, none⟩ = some (.string (⟨#[]⟩ : ByteArray)) := (blk_cell BK182.out 3).trans rfl
        have hfs48 := blk_frozen BK182.out 3
        have hns48_1 := NB194_182.out
        have hms48_1 := NB182_194.out
        have hs49 : w44.cell? ⟨gb182, 4, none⟩ = some (.int .i64 0) := (blk_cell BK182.out 4).trans rfl
        have hfs49 := blk_frozen BK182.out 4
        have hns49_1 := NB194_182.out
        have hms49_1 := NB182_194.out
        refine skip_ (w1 := ?_) (z_1) rfl ?_ ?_
        rotate_left
        ·go_simp
         rfl
        refine hK.out _ _ ⟨((cell_far (p := ⟨gb182, _, none⟩) NB194_182.out _).trans (((cell_far (p := ⟨gb182, _, none⟩) NB194_182.out _).trans (((cell_far (p := ⟨gb182, _, none⟩) NB194_182.out _).trans (((cell_far (p := ⟨gb182, _, none⟩) NB194_182.out _).trans (((cell_far (p := ⟨gb182, _, none⟩) NB194_182.out _).trans (hHeld.1)))))))))), ((cell_far (p := ⟨gb182, _, none⟩) NB194_182.out _).trans (((cell_far (p := ⟨gb182, _, none⟩) NB194_182.out _).trans (((cell_far (p := ⟨gb182, _, none⟩) NB194_182.out _).trans (((cell_far (p := ⟨gb182, _, none⟩) NB194_182.out _).trans (((cell_far (p := ⟨gb182, _, none⟩) NB194_182.out _).trans (hHeld.2.1)))))))))), ((cell_far (p := ⟨gb182, _, none⟩) NB194_182.out _).trans (((cell_far (p := ⟨gb182, _, none⟩) NB194_182.out _).trans (((cell_far (p := ⟨gb182, _, none⟩) NB194_182.out _).trans (((cell_far (p := ⟨gb182, _, none⟩) NB194_182.out _).trans (((cell_far (p := ⟨gb182, _, none⟩) NB194_182.out _).trans (hHeld.2.2.1)))))))))), ((cell_far (p := ⟨gb182, _, none⟩) NB194_182.out _).trans (((cell_far (p := ⟨gb182, _, none⟩) NB194_182.out _).trans (((cell_far (p := ⟨gb182, _, none⟩) NB194_182.out _).trans (((cell_far (p := ⟨gb182, _, none⟩) NB194_182.out _).trans (((cell_far (p := ⟨gb182, _, none⟩) NB194_182.out _).trans (hHeld.2.2.2.1)))))))))), ((cell_far (p := ⟨gb182, _, none⟩) NB194_182.out _).trans (((cell_far (p := ⟨gb182, _, none⟩) NB194_182.out _).trans (((cell_far (p := ⟨gb182, _, none⟩) NB194_182.out _).trans (((cell_far (p := ⟨gb182, _, none⟩) NB194_182.out _).trans (((cell_far (p := ⟨gb182, _, none⟩) NB194_182.out _).trans (hHeld.2.2.2.2))))))))))⟩ (fun hHeld => ?_)
        clear hK K
        refine pure_ (i := 10) (N := some 10) (v := ?_) (a' := ?_) #[T,T,T,T,T,T,T,T,T,T,T] rfl rfl (any_of HT_.out (z_0)) (fun _ _ _ h => h) (Or.inl ⟨z_1, ?_⟩) ?_ ?_
        rotate_left
        ·intro w'
         go_simp
         with_reducible rfl
        rotate_left
        ·simp only [Act.put, List.setIfInBounds_toArray, List.set_cons_zero, List.set_cons_succ, i64_w, i32_w]
         rfl
        refine done_ (done_of HT_.out (z_0)) ?_
        try go_wp2
        refine bodyPost_ret (results_list (rs := [.tmp 8, .cell 9 26, .tmp 10]) rfl (z_12) (.tmp (.cell gb182 26 #[.string t189, .int .i64 t190, .int .i64 t191, .string t192, .int .i64 t193] (0, 0) _ rfl (z_61) Try.underlying26 rfl (z_0) (.tmp .nil)))) rfl ?_
        exact ⟨_, by first | rfl | (simp [errW_none, errW_some] <;> rfl) | (simp only [← hji28]; first | rfl | (simp [errW_none, errW_some] <;> rfl)) | (simp [*, errW_none, errW_some] <;> rfl), by (with_reducible repeat (first | apply Kd.R_alloc | apply Kd.R_drewN | apply Kd.R_drew)); exact Kd.R_mono (Kd.R_far (p := ⟨gb182, 4, none⟩) (Kd.R_far (p := ⟨gb182, 3, none⟩) (Kd.R_far (p := ⟨gb182, 2, none⟩) (Kd.R_far (p := ⟨gb182, 1, none⟩) (Kd.R_far (p := ⟨gb182, 0, none⟩) (Kd.R_types HO210.out BK182.out (z_5)) (fun _ hk => hk.2) (.string t189)) (fun _ hk => hk.2) (.int .i64 t190)) (fun _ hk => hk.2) (.int .i64 t191)) (fun _ hk => hk.2) (.string t192)) (fun _ hk => hk.2) (.int .i64 t193)) (fun _ hk => trivial), z_52⟩
       ·rw [if_neg c30] at H
        exact absurd H (z_12)
      ·rw [if_neg c29] at H
       exact absurd H (z_12)
     ·rw [if_neg c27] at H
      exact absurd H (z_12)
    ·rw [if_neg c25] at H
     have c25b0 : decide (0 ≤ t183) = false := decide_eq_false c25
     clear c25
     by_cases c50 : t195.length < 2199023255552
     ·rw [if_pos c50] at H
      have LMc50 := Aside0.mk c50
      clear c50
      obtain ⟨y211, hy211⟩ : ∃ y_ : List (S83), y_ = (t195 ++ [(⟨(⟨t189, t190, t191, t192, t193⟩ : S26), wrap64 (a3 + t193)⟩ : S83)]) := ⟨_, rfl⟩
      replace H : (if 0 ≤ (mx 0 (wrap64 ((y211.length : Int) - 5))) then (if (mx 0 (wrap64 ((y211.length : Int) - 5))) ≤ (y211.length : Int) then ((impl_Kept_75.f (y211.drop ((mx 0 (wrap64 ((y211.length : Int) - 5))) : Int).toNat)).bind fun t218 => (some (t218, t189, t190, t191, t192, t193, false))) else (none)) else (none)) = some (r1, r2, r3, r4, r5, r6, r7) := by first | (rw [hy211]; with_reducible exact H) | (have H2_ := (Option.bind_some _ _).symm.trans H; rw [hy211]; with_reducible exact H2_) | (have H2_ := (Option.bind_some _ _).symm.trans H; with_reducible exact H2_) | with_reducible exact H | (rw [hy211]; exact H) | exact H
      have Ny211 := Aside0.mk hy211
      clear hy211
      obtain ⟨ji51, hji51⟩ : ∃ j_ : Int, (mx 0 (wrap64 ((y211.length : Int) - 5))) = j_ := ⟨_, rfl⟩
      replace H : (if 0 ≤ (ji51) then (if (ji51) ≤ (y211.length : Int) then ((impl_Kept_75.f (y211.drop ((ji51) : Int).toNat)).bind fun t218 => (some (t218, t189, t190, t191, t192, t193, false))) else (none)) else (none)) = some (r1, r2, r3, r4, r5, r6, r7) := by first | (rw [hji51] at H; exact H) | (simp only [hji51] at H ⊢; exact H)
      (try rw [hji51] at A23)
      (try rw [hji51] at A24)
      (try (have hji51l : 0 ≤ ji51 := by (rw [← hji51]; unfold mx; (repeat' split) <;> omega)))
      (try (have hji51m : 0 ≤ ji51 := z_6))
      have hji51_ : (if 0 < (wrap64 ((y211.length : Int) - 5)) then (wrap64 ((y211.length : Int) - 5)) else 0) = ji51 := hji51
      by_cases c52 : 0 ≤ (ji51)
      ·rw [if_pos c52] at H
       have c52b0 := eq_true c52
       have c52b1 : decide (0 ≤ (ji51)) = true := decide_eq_true c52
       clear c52
       by_cases c53 : (ji51) ≤ (y211.length : Int)
       ·rw [if_pos c53] at H
        have c53b0 := eq_true c53
        have c53b1 : decide ((ji51) ≤ (y211.length : Int)) = true := decide_eq_true c53
        clear c53
        obtain ⟨y214, hy214⟩ : ∃ y_ : List (S83), y_ = (y211.drop ((ji51) : Int).toNat) := ⟨_, rfl⟩
        replace H : ((impl_Kept_75.f y214).bind fun t218 => (some (t218, t189, t190, t191, t192, t193, false))) = some (r1, r2, r3, r4, r5, r6, r7) := by first | (rw [hy214]; with_reducible exact H) | (have H2_ := (Option.bind_some _ _).symm.trans H; rw [hy214]; with_reducible exact H2_) | (have H2_ := (Option.bind_some _ _).symm.trans H; with_reducible exact H2_) | with_reducible exact H | (rw [hy214]; exact H) | exact H
        have Ny214 := Aside0.mk hy214
        clear hy214
        replace H := Option.bind_eq_some_iff.mp H
        obtain ⟨t218, A540, H⟩ := H
        have A54 := Aside0.mk A540
        clear A540
        simp only [Option.some.injEq, Prod.mk.injEq] at H
        obtain ⟨rfl, rfl, rfl, rfl, rfl, rfl, rfl⟩ := H
        try go_wp2_with (first | ((with_reducible refine gate_callee (f := 63) rfl ?_); refine goesL_ (some 37) rfl rfl Try.func63 (z_0) rfl #[.slice A1 l1.length c1, .string a2] rfl (z_14) ?_; (with_reducible refine (impl_ask.calls kj5 _ _ l1 a2 t189 t190 t191 t192 t193 _ ?side1 ?side2 A23.out).mono ?_); (case side1 => exact z_32); (case side2 => exact HC1.out); rintro e w55 ⟨rfl, hb⟩; refine ⟨_, rfl, ?_⟩; have n0_ := Aside0.mk (blk_below (g := gb182) (o := .cells #[.string (⟨#[]⟩ : ByteArray), .int .i64 0, .int .i64 0, .string (⟨#[]⟩ : ByteArray), .int .i64 0] 26 (0, 0)) (z_35) hb); have n1_ := Aside0.mk (below_step (z_36) hb); clear BK182; clear HB; have BK182 := n0_; have HB := n1_; clear n0_ n1_; (try clear hb); (try clear hb2); (try clear hk); (try clear hi)) | ((with_reducible refine gate_dst (N := 12) rfl ?_); refine box_event ?hg (N := 12) ?hd (cs := #[.string (⟨#[]⟩ : ByteArray), .int .i64 0, .int .i64 0, .string (⟨#[]⟩ : ByteArray), .int .i64 0]) (t := 26) ?hr ?_; (case hd => rfl); (case hg => rfl); (case hr => exact z_9); intro gb194 hg w56 hbox hb; have n0_ := Aside0.mk (blk_below (g := gb182) (o := .cells #[.string (⟨#[]⟩ : ByteArray), .int .i64 0, .int .i64 0, .string (⟨#[]⟩ : ByteArray), .int .i64 0] 26 (0, 0)) (z_35) hb); have n1_ := Aside0.mk (below_step (z_36) hb); have n2_ := Aside0.mk (hbox); have n3_ := Aside0.mk ((z_49 : w.heap.size ≤ gb194)); have n4_ := Aside0.mk ((z_49 : w.heap.size ≤ gb194)); have n5_ := Aside0.mk ((z_50 : gb182 ≠ gb194)); have n6_ := Aside0.mk ((z_51 : gb194 ≠ gb182)); clear BK182; clear HB; have BK182 := n0_; have HB := n1_; have BK194 := n2_; have GW194 := n3_; have GE194 := n4_; have NB182_194 := n5_; have NB194_182 := n6_; clear n0_ n1_ n2_ n3_ n4_ n5_ n6_; clear hb hbox hg; have hnb57 := NB194_182.out; have hnc57 := NB182_194.out; have hcz58_0 : w56.cell? ⟨gb194, 0, none⟩ = some (.string (⟨#[]⟩ : ByteArray)) := (blk_cell BK194.out 0).trans rfl; have hcz58_1 : w56.cell? ⟨gb194, 1, none⟩ = some (.int .i64 0) := (blk_cell BK194.out 1).trans rfl; have hcz58_2 : w56.cell? ⟨gb194, 2, none⟩ = some (.int .i64 0) := (blk_cell BK194.out 2).trans rfl; have hcz58_3 : w56.cell? ⟨gb194, 3, none⟩ = some (.string (⟨#[]⟩ : ByteArray)) := (blk_cell BK194.out 3).trans rfl; have hcz58_4 : w56.cell? ⟨gb194, 4, none⟩ = some (.int .i64 0) := (blk_cell BK194.out 4).trans rfl; have hfz58_0 := blk_frozen BK194.out 0; have hfz58_1 := blk_frozen BK194.out 1; have hfz58_2 := blk_frozen BK194.out 2; have hfz58_3 := blk_frozen BK194.out 3; have hfz58_4 := blk_frozen BK194.out 4) | ((with_reducible refine gate_callee (f := 84) rfl ?_); refine goesL_ (some 39) rfl rfl Try.func84 (z_0) rfl #[.slice A0 l0.length c0] rfl (z_14) ?_; (with_reducible refine (impl_Kept_84.calls _ _ l0 t195 _ ?side1 ?side2 A24.out).mono ?_); (case side1 => exact z_53); (case side2 => exact HC0.out); rintro e w59 ⟨v196, rfl, ho0, hb⟩; refine ⟨_, rfl, ?_⟩; have n0_ := Aside0.mk (Kd.R_lower ho0 (below_size (z_52))); have n1_ := Aside0.mk (blk_below (g := gb182) (o := .cells #[.string (⟨#[]⟩ : ByteArray), .int .i64 0, .int .i64 0, .string (⟨#[]⟩ : ByteArray), .int .i64 0] 26 (0, 0)) (z_54) hb); have n2_ := Aside0.mk (blk_below (g := gb194) (o := .cells #[.string t189, .int .i64 t190, .int .i64 t191, .string t192, .int .i64 t193] 26 (0, 0)) (z_55) hb); have n3_ := Aside0.mk (below_step (z_52) hb); clear BK182; clear BK194; clear HB; have HO197 := n0_; have BK182 := n1_; have BK194 := n2_; have HB := n3_; clear n0_ n1_ n2_ n3_; (try clear hb); (try clear hb2); (try clear hk); (try clear hi); (try clear ho0); have hcz60_0 : w59.cell? ⟨gb194, 0, none⟩ = some (.string t189) := (blk_cell BK194.out 0).trans rfl; have hcz60_1 : w59.cell? ⟨gb194, 1, none⟩ = some (.int .i64 t190) := (blk_cell BK194.out 1).trans rfl; have hcz60_2 : w59.cell? ⟨gb194, 2, none⟩ = some (.int .i64 t191) := (blk_cell BK194.out 2).trans rfl; have hcz60_3 : w59.cell? ⟨gb194, 3, none⟩ = some (.string t192) := (blk_cell BK194.out 3).trans rfl; have hcz60_4 : w59.cell? ⟨gb194, 4, none⟩ = some (.int .i64 t193) := (blk_cell BK194.out 4).trans rfl; have hfz60_0 := blk_frozen BK194.out 0; have hfz60_1 := blk_frozen BK194.out 1; have hfz60_2 := blk_frozen BK194.out 2; have hfz60_3 := blk_frozen BK194.out 3; have hfz60_4 := blk_frozen BK194.out 4) | ((with_reducible refine gate_builtin (b := .append) (xs := #[.tmp 47, .tmp 54]) rfl ?_); at_builtin; refine Kd.R_append k83 (w0 := w) w.heap.size rfl (.tmp 47) (.tmp 54) 48 83 (.agg #[(.string ⟨#[]⟩), (.int .i64 0), (.int .i64 0), (.string ⟨#[]⟩), (.int .i64 0), (.int .i64 0)]) 64 rfl Try.underlying48 info83 rfl (z_5) (z_6) v196 t195 (⟨(⟨t189, t190, t191, t192, t193⟩ : S26), wrap64 (a3 + t193)⟩ : S83) [.string t189, .int .i64 t190, .int .i64 t191, .string t192, .int .i64 t193, .int .i64 (wrap64 (a3 + t193))] (fun _ => True) (fun _ => False) rfl rfl ?aP (fun _ hk => hk.elim) ?aF ?aO ?aB ?aS ?aL ?_; (case aP => exact k83_mkM _ _ _ (⟨(⟨t189, t190, t191, t192, t193⟩ : S26), wrap64 (a3 + t193)⟩ : S83)); (case aB => exact z_57); (case aF => exact z_34); (case aO => exact (by (with_reducible repeat (first | apply Kd.R_alloc | apply Kd.R_drewN | apply Kd.R_drew)); exact HO197.out)); (case aS => exact z_58); (case aL => have := LMc50.out; omega); intro v212 w61 ho hb hg hat; rw [← Ny211.out] at ho; have n0_ := Aside0.mk (blk_grown (g := gb182) (o := .cells #[.string (⟨#[]⟩ : ByteArray), .int .i64 0, .int .i64 0, .string (⟨#[]⟩ : ByteArray), .int .i64 0] 26 (0, 0)) (z_35) hg (Kd.R_ne HO197.out BK182.out (z_5))); have n1_ := Aside0.mk (blk_grown (g := gb194) (o := .cells #[.string t189, .int .i64 t190, .int .i64 t191, .string t192, .int .i64 t193] 26 (0, 0)) (z_56) hg (Kd.R_ne HO197.out BK194.out (z_5))); have n2_ := Aside0.mk (hb); have n3_ := Aside0.mk (ho); clear BK182; clear BK194; clear HB; clear HO197; have BK182 := n0_; have BK194 := n1_; have HB := n2_; have HO213 := n3_; clear n0_ n1_ n2_ n3_; clear ho hb hg hat))
        have n0_ := Aside0.mk (Kd.R_drew HO213.out)
        have n1_ := Aside0.mk (blk_drew BK182.out)
        have n2_ := Aside0.mk (blk_drew BK194.out)
        have n3_ := Aside0.mk (below_drew1 HB.out)
        clear HO213
        clear BK182
        clear BK194
        clear HB
        have HO213 := n0_
        have BK182 := n1_
        have BK194 := n2_
        have HB := n3_
        clear n0_ n1_ n2_ n3_
        obtain ⟨Ao63, co63, eo63⟩ := Kd.R_slice HO213.out
        (first | subst eo63 | (injection eo63 with f1_ f2_ f3_; have f4_ := f1_.symm; have f5_ := f3_.symm; clear f1_ f2_ f3_; subst f4_; subst f5_))
        have q64 : ((ji51) : Int) ≤ ((y211.length : Int) : Int) := of_decide_eq_true (z_7)
        obtain ⟨i064, hi064, _, hsz64, _⟩ := info_parts info83
        have hroom64 : y211.length ≤ co63 := (Kd.R_reads' HO213.out).2.1
        have hC64 : Kd.C k83 _ Ao63 y211.length y211 := (Kd.R_reads' HO213.out).2.2
        have q064 : (0 : Int) ≤ ((ji51) : Int) := of_decide_eq_true (z_7)
        have hcut64 := cut_from (P := Try.prog) 48 83 .i64 Try.underlying48 hi064 6 hsz64 Ao63 y211.length co63 (ji51) q064 q64
        have hr64 := Kd.C_drop (m := ((ji51) : Int).toNat) (c := co63) hC64 (z_6) hroom64
        obtain ⟨A64, hA64⟩ : ∃ A1, A1 = (if co63 = ((ji51) : Int).toNat then Ao63 else (Ao63 : Option Addr).map (·.add (((ji51) : Int).toNat * 6))) := ⟨_, rfl⟩
        obtain ⟨c64, hc64⟩ : ∃ c1, c1 = co63 - ((ji51) : Int).toNat := ⟨_, rfl⟩
        have hy64 : y214.length = y211.length - ((ji51) : Int).toNat := (by rw [Ny214.out, List.length_drop] <;> omega)
        rw [show (y211).drop ((ji51) : Int).toNat = y214 from Ny214.out.symm] at hr64
        replace hr64 : Kd.C k83 _ A64 y214.length y214 := (by rw [hA64]; exact hr64)
        rw [← hy64, ← hA64, ← hc64] at hcut64
        have HR217 := Aside0.mk hr64
        have HC217 := Aside0.mk (show y214.length ≤ c64 from by rw [hy64, hc64]; exact Nat.sub_le_sub_right hroom64 _)
        clear hr64 hC64 hroom64 hi064 hsz64 hc64
        have KY64 := Aside0.mk hy64
        have KA64 := Aside0.mk hA64
        clear hy64 hA64
        have KL64 := Aside0.mk (show ((ji51) : Int).toNat ≤ y211.length from z_6)
        replace q64 := eq_true q64
        refine start_ (n := 11) (S := fun w' => w'.cell? ⟨gb194, 0, none⟩ = some (.string t189) ∧ w'.cell? ⟨gb194, 1, none⟩ = some (.int .i64 t190) ∧ w'.cell? ⟨gb194, 2, none⟩ = some (.int .i64 t191) ∧ w'.cell? ⟨gb194, 3, none⟩ = some (.string t192) ∧ w'.cell? ⟨gb194, 4, none⟩ = some (.int .i64 t193)) (ds := []) #[F,F,F,F,F,F,F,F,F,F,F] (z_0) rfl rfl ⟨(blk_cell BK194.out 0).trans rfl, (blk_cell BK194.out 1).trans rfl, (blk_cell BK194.out 2).trans rfl, (blk_cell BK194.out 3).trans rfl, (blk_cell BK194.out 4).trans rfl⟩ (fun hHeld => ?_); refine with_tabW impl_keep.tab9 impl_keep.bits9 (fun HT_ HW_ => ?_)
        generalize w61.drew = w62 at HO213 BK182 BK194 HB HR217 hHeld ⊢
        refine pure_ (i := 0) (N := some 56) (v := ?_) (a' := ?_) #[T,F,F,F,F,F,F,F,F,F,F] rfl rfl (any_of HT_.out (z_0)) (fun _ _ _ h => h) (Or.inl ⟨z_1, ?_⟩) ?_ ?_
        rotate_left
        ·intro w'
         go_simp
         with_reducible rfl
        rotate_left
        ·simp only [Act.put, List.setIfInBounds_toArray, List.set_cons_zero, List.set_cons_succ, i64_w, i32_w]
         rfl
        refine pure_ (i := 1) (N := some 57) (v := ?_) (a' := ?_) #[T,T,F,F,F,F,F,F,F,F,F] rfl rfl (any_of HT_.out (z_0)) (fun _ _ _ h => h) (Or.inl ⟨z_1, ?_⟩) ?_ ?_
        rotate_left
        ·intro w'
         go_simp
         with_reducible rfl
        rotate_left
        ·simp only [Act.put, List.setIfInBounds_toArray, List.set_cons_zero, List.set_cons_succ, i64_w, i32_w]
         rfl
        refine pure_ (i := 2) (N := some 58) (v := ?_) (a' := ?_) #[T,T,T,F,F,F,F,F,F,F,F] rfl rfl (any_of HT_.out (z_0)) (fun _ _ _ h => h) (Or.inl ⟨z_1, ?_⟩) ?_ ?_
        rotate_left
        ·intro w'
         go_simp
         with_reducible rfl
        rotate_left
        ·simp only [Act.put, List.setIfInBounds_toArray, List.set_cons_zero, List.set_cons_succ, i64_w, i32_w]
         rfl
        refine pure_ (i := 3) (N := some 59) (v := ?_) (a' := ?_) #[T,T,T,T,F,F,F,F,F,F,F] rfl rfl (any_of HT_.out (z_0)) (fun _ _ _ h => h) (Or.inl ⟨z_1, ?_⟩) ?_ ?_
        rotate_left
        ·intro w'
         go_simp
         with_reducible rfl
        rotate_left
        ·simp only [Act.put, List.setIfInBounds_toArray, List.set_cons_zero, List.set_cons_succ, i64_w, i32_w]
         rfl
        refine pure_ (i := 4) (N := some 60) (v := ?_) (a' := ?_) #[T,T,T,T,T,F,F,F,F,F,F] rfl rfl (any_of HT_.out (z_0)) (fun _ _ _ h => h) (Or.inl ⟨z_1, ?_⟩) ?_ ?_
        rotate_left
        ·intro w'
         go_simp
         with_reducible rfl
        rotate_left
        ·simp only [Act.put, List.setIfInBounds_toArray, List.set_cons_zero, List.set_cons_succ, i64_w, i32_w]
         rfl
        refine pure_ (i := 5) (N := some 61) (v := ?_) (a' := ?_) #[T,T,T,T,T,T,F,F,F,F,F] rfl rfl (any_of HT_.out (z_0)) (fun _ _ _ h => h) (Or.inl ⟨z_1, ?_⟩) ?_ ?_
        rotate_left
        ·intro w'
         go_simp
         with_reducible rfl
        rotate_left
        ·simp only [Act.put, List.setIfInBounds_toArray, List.set_cons_zero, List.set_cons_succ, i64_w, i32_w]
         rfl
        refine take_ (i := 7) (N := some 63) (v := ?_) (a' := ?_) #[T,T,T,T,T,T,F,T,F,F,F] rfl rfl (take_ofW HT_.out HW_.out (z_0)) (fun _ _ _ h => h) (Or.inl ⟨z_1, ?_⟩) hHeld ?_ ?_
        rotate_left
        ·rintro w' ⟨s0, s1, s2, s3, s4⟩
         go_simp
         with_reducible rfl
        rotate_left
        ·simp only [Act.put, List.setIfInBounds_toArray, List.set_cons_zero, List.set_cons_succ, i64_w, i32_w]
         rfl
        refine one_ (i := 6) (N := some 62) #[T,T,T,T,T,T,T,T,F,F,F] rfl rfl (one_of HT_.out (z_0)) (z_5) (fun K hK => ?_)
        refine goes_ Try.func75 (z_0) rfl #[.slice A64 y214.length c64] (z_1) rfl rfl (z_14) ?_
        with_reducible refine (impl_Kept_75.calls _ _ y214 t218 _ ?side1 ?side2 A54.out).mono ?_
        (case side1 => repeat (first | exact (z_62) | (with_reducible refine Kd.C_alloc ?_ _) | (with_reducible refine Kd.C_drewN ?_ _) | (with_reducible refine Kd.C_drew ?_)))
        (case side2 => exact HC217.out)
        rintro e w65 ⟨v219, rfl, ho0, hb⟩
        refine ⟨_, rfl, ?_⟩
        have n0_ := Aside0.mk (Kd.R_elder' (z_63) (Kd.R_base ho0) hb)
        have n1_ := Aside0.mk (Kd.R_lower (Kd.R_new' ho0 (Kd.R_lt (z_63))) (below_size (z_52)))
        have n2_ := Aside0.mk (blk_below (g := gb182) (o := .cells #[.string (⟨#[]⟩ : ByteArray), .int .i64 0, .int .i64 0, .string (⟨#[]⟩ : ByteArray), .int .i64 0] 26 (0, 0)) (z_35) hb)
        have n3_ := Aside0.mk (blk_below (g := gb194) (o := .cells #[.string t189, .int .i64 t190, .int .i64 t191, .string t192, .int .i64 t193] 26 (0, 0)) (z_56) hb)
        have n4_ := Aside0.mk (Kd.C_below (z_62) hb)
        have n5_ := Aside0.mk (below_step (z_52) hb)
        clear HO213
        clear BK182
        clear BK194
        clear HR217
        clear HB
        have HO213 := n0_
        have HO220 := n1_
        have BK182 := n2_
        have BK194 := n3_
        have HR217 := n4_
        have HB := n5_
        clear n0_ n1_ n2_ n3_ n4_ n5_
        (try clear hb)
        (try clear hb2)
        (try clear hk)
        (try clear hi)
        (try clear ho0)
        refine hK.out _ _ ⟨(blk_cell BK194.out 0).trans rfl, (blk_cell BK194.out 1).trans rfl, (blk_cell BK194.out 2).trans rfl, (blk_cell BK194.out 3).trans rfl, (blk_cell BK194.out 4).trans rfl⟩ (fun hHeld => ?_)
        clear hK K
        refine norm_ (a' := ?_) ?_ ?_
        rotate_left
        ·show Act.put _ (some 62) _ = _
         simp only [Act.put, List.setIfInBounds_toArray, List.set_cons_zero, List.set_cons_succ, i64_w, i32_w]
         rfl
        refine pure_ (i := 8) (N := some 8) (v := ?_) (a' := ?_) #[T,T,T,T,T,T,T,T,T,F,F] rfl rfl (any_of HT_.out (z_0)) (fun _ _ _ h => h) (Or.inl ⟨z_1, ?_⟩) ?_ ?_
        rotate_left
        ·intro w'
         go_simp
         with_reducible rfl
        rotate_left
        ·simp only [Act.put, List.setIfInBounds_toArray, List.set_cons_zero, List.set_cons_succ, i64_w, i32_w]
         rfl
        refine one_ (i := 9) (N := none) #[T,T,T,T,T,T,T,T,T,T,F] rfl rfl (one_of HT_.out (z_0)) (z_5) (fun K hK => ?_)
        have hs66 : w65.cell? ⟨gb182, 0, none⟩ = some (.string (⟨#[]⟩ : ByteArray)) := (blk_cell BK182.out 0).trans rfl
        have hfs66 := blk_frozen BK182.out 0
        have hns66_1 := NB194_182.out
        have hms66_1 := NB182_194.out
        have hs67 : w65.cell? ⟨gb182, 1, none⟩ = some (.int .i64 0) := (blk_cell BK182.out 1).trans rfl
        have hfs67 := blk_frozen BK182.out 1
        have hns67_1 := NB194_182.out
        have hms67_1 := NB182_194.out
        have hs68 : w65.cell? ⟨gb182, 2, none⟩ = some (.int .i64 0) := (blk_cell BK182.out 2).trans rfl
        have hfs68 := blk_frozen BK182.out 2
        have hns68_1 := NB194_182.out
        have hms68_1 := NB182_194.out
        have hs69 : w65.cell? ⟨gb182, 3, none⟩ = some (.string (⟨#[]⟩ : ByteArray)) := (blk_cell BK182.out 3).trans rfl
        have hfs69 := blk_frozen BK182.out 3
        have hns69_1 := NB194_182.out
        have hms69_1 := NB182_194.out
        have hs70 : w65.cell? ⟨gb182, 4, none⟩ = some (.int .i64 0) := (blk_cell BK182.out 4).trans rfl
        have hfs70 := blk_frozen BK182.out 4
        have hns70_1 := NB194_182.out
        have hms70_1 := NB182_194.out
        refine skip_ (w1 := ?_) (z_1) rfl ?_ ?_
        rotate_left
        ·go_simp
         rfl
        refine hK.out _ _ ⟨((cell_far (p := ⟨gb182, _, none⟩) NB194_182.out _).trans (((cell_far (p := ⟨gb182, _, none⟩) NB194_182.out _).trans (((cell_far (p := ⟨gb182, _, none⟩) NB194_182.out _).trans (((cell_far (p := ⟨gb182, _, none⟩) NB194_182.out _).trans (((cell_far (p := ⟨gb182, _, none⟩) NB194_182.out _).trans (hHeld.1)))))))))), ((cell_far (p := ⟨gb182, _, none⟩) NB194_182.out _).trans (((cell_far (p := ⟨gb182, _, none⟩) NB194_182.out _).trans (((cell_far (p := ⟨gb182, _, none⟩) NB194_182.out _).trans (((cell_far (p := ⟨gb182, _, none⟩) NB194_182.out _).trans (((cell_far (p := ⟨gb182, _, none⟩) NB194_182.out _).trans (hHeld.2.1)))))))))), ((cell_far (p := ⟨gb182, _, none⟩) NB194_182.out _).trans (((cell_far (p := ⟨gb182, _, none⟩) NB194_182.out _).trans (((cell_far (p := ⟨gb182, _, none⟩) NB194_182.out _).trans (((cell_far (p := ⟨gb182, _, none⟩) NB194_182.out _).trans (((cell_far (p := ⟨gb182, _, none⟩) NB194_182.out _).trans (hHeld.2.2.1)))))))))), ((cell_far (p := ⟨gb182, _, none⟩) NB194_182.out _).trans (((cell_far (p := ⟨gb182, _, none⟩) NB194_182.out _).trans (((cell_far (p := ⟨gb182, _, none⟩) NB194_182.out _).trans (((cell_far (p := ⟨gb182, _, none⟩) NB194_182.out _).trans (((cell_far (p := ⟨gb182, _, none⟩) NB194_182.out _).trans (hHeld.2.2.2.1)))))))))), ((cell_far (p := ⟨gb182, _, none⟩) NB194_182.out _).trans (((cell_far (p := ⟨gb182, _, none⟩) NB194_182.out _).trans (((cell_far (p := ⟨gb182, _, none⟩) NB194_182.out _).trans (((cell_far (p := ⟨gb182, _, none⟩) NB194_182.out _).trans (((cell_far (p := ⟨gb182, _, none⟩) NB194_182.out _).trans (hHeld.2.2.2.2))))))))))⟩ (fun hHeld => ?_)
        clear hK K
        refine pure_ (i := 10) (N := some 10) (v := ?_) (a' := ?_) #[T,T,T,T,T,T,T,T,T,T,T] rfl rfl (any_of HT_.out (z_0)) (fun _ _ _ h => h) (Or.inl ⟨z_1, ?_⟩) ?_ ?_
        rotate_left
        ·intro w'
         go_simp
         with_reducible rfl
        rotate_left
        ·simp only [Act.put, List.setIfInBounds_toArray, List.set_cons_zero, List.set_cons_succ, i64_w, i32_w]
         rfl
        refine done_ (done_of HT_.out (z_0)) ?_
        try go_wp2
        refine bodyPost_ret (results_list (rs := [.tmp 8, .cell 9 26, .tmp 10]) rfl (z_12) (.tmp (.cell gb182 26 #[.string t189, .int .i64 t190, .int .i64 t191, .string t192, .int .i64 t193] (0, 0) _ rfl (z_61) Try.underlying26 rfl (z_0) (.tmp .nil)))) rfl ?_
        exact ⟨_, by first | rfl | (simp [errW_none, errW_some] <;> rfl) | (simp only [← hji51]; first | rfl | (simp [errW_none, errW_some] <;> rfl)) | (simp [*, errW_none, errW_some] <;> rfl), by (with_reducible repeat (first | apply Kd.R_alloc | apply Kd.R_drewN | apply Kd.R_drew)); exact Kd.R_mono (Kd.R_far (p := ⟨gb182, 4, none⟩) (Kd.R_far (p := ⟨gb182, 3, none⟩) (Kd.R_far (p := ⟨gb182, 2, none⟩) (Kd.R_far (p := ⟨gb182, 1, none⟩) (Kd.R_far (p := ⟨gb182, 0, none⟩) (Kd.R_types HO220.out BK182.out (z_5)) (fun _ hk => hk.2) (.string t189)) (fun _ hk => hk.2) (.int .i64 t190)) (fun _ hk => hk.2) (.int .i64 t191)) (fun _ hk => hk.2) (.string t192)) (fun _ hk => hk.2) (.int .i64 t193)) (fun _ hk => trivial), z_52⟩
       ·rw [if_neg c53] at H
        exact absurd H (z_12)
      ·rw [if_neg c52] at H
       exact absurd H (z_12)
     ·rw [if_neg c50] at H
      exact absurd H (z_12)

/-! ### impl_KeptAsk: function 44 -/
def impl_KeptAsk.f (k : Nat) (l0 : List (S83)) (l1 : List (S26)) (a2 : ByteArray) (a3 : Int) : Option ((List (S83)) × ByteArray × Int × Int × ByteArray × Int × Bool) := (impl_keptOk.f k l0 l1 a2 a3).bind fun t222 => (if t222 = true then ((impl_keep.f k l0 l1 a2 a3).bind fun bt223 => (some (bt223.1, bt223.2.1, bt223.2.2.1, bt223.2.2.2.1, bt223.2.2.2.2.1, bt223.2.2.2.2.2.1, bt223.2.2.2.2.2.2))) else (some (([] : List (S83)), (⟨#[]⟩ : ByteArray), 0, 0, (⟨#[]⟩ : ByteArray), 0, false)))
theorem impl_KeptAsk.mono : ∀ a0 a1 a2 a3 k, LeO (impl_KeptAsk.f k a0 a1 a2 a3) (impl_KeptAsk.f (k + 1) a0 a1 a2 a3) := by
 intro a0 a1 a2 a3 k
 unfold impl_KeptAsk.f
 repeat' first
   | (with_reducible exact impl_keep.mono _ _ _ _ _)
   | (with_reducible exact impl_keptOk.mono _ _ _ _ _)
   | (with_reducible exact LeO.refl _)
   | (with_reducible exact LeO.none _)
   | (with_reducible refine LeO.ite ?_ ?_)
   | (with_reducible refine LeO.bind ?_ (fun _ => ?_))
   | exact impl_keep.mono _ _ _ _ _
   | exact impl_keptOk.mono _ _ _ _ _
   | exact LeO.none _
   | refine LeO.ite ?_ ?_
   | refine LeO.bind ?_ (fun _ => ?_)
set_option maxHeartbeats 8000000 in
set_option maxRecDepth 100000 in
theorem impl_KeptAsk.calls (k : Nat) (A0 : Option Addr) (c0 : Nat) (l0 : List (S83)) (A1 : Option Addr) (c1 : Nat) (l1 : List (S26)) (a2 : ByteArray) (a3 : Int) (r1 : List (S83)) (r2 : ByteArray) (r3 : Int) (r4 : Int) (r5 : ByteArray) (r6 : Int) (r7 : Bool) (w : World) (hr0 : Kd.C k83 w A0 l0.length l0) (hc0 : l0.length ≤ c0) (hr1 : Kd.C k26 w A1 l1.length l1) (hc1 : l1.length ≤ c1) (h : impl_KeptAsk.f k l0 l1 a2 a3 = some (r1, r2, r3, r4, r5, r6, r7)) :
  Calls Try.prog 44 #[.slice A0 l0.length c0, .slice A1 l1.length c1, .string a2, .int .i64 a3] w fun e w' => ∃ v0_ : Value, e = .returned (.tuple #[v0_, .agg #[.string r2, .int .i64 r3, .int .i64 r4, .string r5, .int .i64 r6], .bool r7]) ∧ Kd.R k83 83 w' w.heap.size (fun _ => True) v0_ r1 ∧ Below w.heap.size w w' := by
 have hu26 := Try.underlying26
 have HR0 := Aside0.mk hr0
 have HC0 := Aside0.mk hc0
 clear hr0 hc0
 have HR1 := Aside0.mk hr1
 have HC1 := Aside0.mk hc1
 clear hr1 hc1
 have HB := Aside0.mk (Below.refl w.heap.size w)
 have H : ((impl_keptOk.f k l0 l1 a2 a3).bind fun t222 => (if t222 = true then ((impl_keep.f k l0 l1 a2 a3).bind fun bt223 => (some (bt223.1, bt223.2.1, bt223.2.2.1, bt223.2.2.2.1, bt223.2.2.2.2.1, bt223.2.2.2.2.2.1, bt223.2.2.2.2.2.2))) else (some (([] : List (S83)), (⟨#[]⟩ : ByteArray), 0, 0, (⟨#[]⟩ : ByteArray), 0, false)))) = some (r1, r2, r3, r4, r5, r6, r7) := h
 clear h
 replace H := Option.bind_eq_some_iff.mp H
 obtain ⟨t222, A50, H⟩ := H
 have A5 := Aside0.mk A50
 clear A50
 by_cases c6 : t222 = true
 ·subst c6
  rw [if_pos rfl] at H
  replace H := Option.bind_eq_some_iff.mp H
  obtain ⟨⟨t223, t226, t227, t228, t229, t230, t231⟩, A70, H⟩ := H
  replace H : (some (t223, t226, t227, t228, t229, t230, t231)) = some (r1, r2, r3, r4, r5, r6, r7) := H
  have A7 := Aside0.mk A70
  clear A70
  simp only [Option.some.injEq, Prod.mk.injEq] at H
  obtain ⟨rfl, rfl, rfl, rfl, rfl, rfl, rfl⟩ := H
  go_enter Try.func44, Try.ntmps44
  go_wp2_with (first | ((with_reducible refine gate_dst (N := 9) rfl ?_); refine box_event ?hg (N := 9) ?hd (cs := #[.string (⟨#[]⟩ : ByteArray), .int .i64 0, .int .i64 0, .string (⟨#[]⟩ : ByteArray), .int .i64 0]) (t := 26) ?hr ?_; (case hd => rfl); (case hg => rfl); (case hr => exact z_9); intro gb221 hg w8 hbox hb; have n0_ := Aside0.mk (below_step (z_8) hb); have n1_ := Aside0.mk (hbox); have n2_ := Aside0.mk ((z_20 : w.heap.size ≤ gb221)); have n3_ := Aside0.mk ((z_20 : w.heap.size ≤ gb221)); clear HB; have HB := n0_; have BK221 := n1_; have GW221 := n2_; have GE221 := n3_; clear n0_ n1_ n2_ n3_; clear hb hbox hg) | ((with_reducible refine gate_callee (f := 73) rfl ?_); refine goesL_ (some 15) rfl rfl Try.func73 (z_0) rfl #[.slice A0 l0.length c0, .slice A1 l1.length c1, .string a2, .int .i64 a3] rfl (z_14) ?_; (with_reducible refine (impl_keptOk.calls k _ _ l0 _ _ l1 a2 a3 true _ ?side1 ?side2 ?side3 ?side4 A5.out).mono ?_); (case side1 => exact z_33); (case side2 => exact HC0.out); (case side3 => exact z_32); (case side4 => exact HC1.out); rintro e w9 ⟨rfl, hb⟩; refine ⟨_, rfl, ?_⟩; have n0_ := Aside0.mk (blk_below (g := gb221) (o := .cells #[.string (⟨#[]⟩ : ByteArray), .int .i64 0, .int .i64 0, .string (⟨#[]⟩ : ByteArray), .int .i64 0] 26 (0, 0)) (z_64) hb); have n1_ := Aside0.mk (below_step (z_65) hb); clear BK221; clear HB; have BK221 := n0_; have HB := n1_; clear n0_ n1_; (try clear hb); (try clear hb2); (try clear hk); (try clear hi)) | ((with_reducible refine gate_callee (f := 74) rfl ?_); refine goesL_ (some 22) rfl rfl Try.func74 (z_0) rfl #[.slice A0 l0.length c0, .slice A1 l1.length c1, .string a2, .int .i64 a3] rfl (z_14) ?_; (with_reducible refine (impl_keep.calls k _ _ l0 _ _ l1 a2 a3 t223 t226 t227 t228 t229 t230 t231 _ ?side1 ?side2 ?side3 ?side4 A7.out).mono ?_); (case side1 => exact z_33); (case side2 => exact HC0.out); (case side3 => exact z_32); (case side4 => exact HC1.out); rintro e w10 ⟨v224, rfl, ho0, hb⟩; refine ⟨_, rfl, ?_⟩; have n0_ := Aside0.mk (Kd.R_lower ho0 (below_size (z_65))); have n1_ := Aside0.mk (blk_below (g := gb221) (o := .cells #[.string (⟨#[]⟩ : ByteArray), .int .i64 0, .int .i64 0, .string (⟨#[]⟩ : ByteArray), .int .i64 0] 26 (0, 0)) (z_64) hb); have n2_ := Aside0.mk (below_step (z_65) hb); clear BK221; clear HB; have HO225 := n0_; have BK221 := n1_; have HB := n2_; clear n0_ n1_ n2_; (try clear hb); (try clear hb2); (try clear hk); (try clear hi); (try clear ho0); have hcz11_0 : w10.cell? ⟨gb221, 0, none⟩ = some (.string (⟨#[]⟩ : ByteArray)) := (blk_cell BK221.out 0).trans rfl; have hcz11_1 : w10.cell? ⟨gb221, 1, none⟩ = some (.int .i64 0) := (blk_cell BK221.out 1).trans rfl; have hcz11_2 : w10.cell? ⟨gb221, 2, none⟩ = some (.int .i64 0) := (blk_cell BK221.out 2).trans rfl; have hcz11_3 : w10.cell? ⟨gb221, 3, none⟩ = some (.string (⟨#[]⟩ : ByteArray)) := (blk_cell BK221.out 3).trans rfl; have hcz11_4 : w10.cell? ⟨gb221, 4, none⟩ = some (.int .i64 0) := (blk_cell BK221.out 4).trans rfl; have hfz11_0 := blk_frozen BK221.out 0; have hfz11_1 := blk_frozen BK221.out 1; have hfz11_2 := blk_frozen BK221.out 2; have hfz11_3 := blk_frozen BK221.out 3; have hfz11_4 := blk_frozen BK221.out 4))
  refine bodyPost_ret (results_list (rs := [.tmp 8, .cell 9 26, .tmp 10]) rfl (z_12) (.tmp (.cell gb221 26 #[.string t226, .int .i64 t227, .int .i64 t228, .string t229, .int .i64 t230] (0, 0) _ rfl (by (with_reducible repeat (first | refine blk_drewN ?_ _ | refine blk_drew ?_ | refine blk_alloc ?_ _)); refine blk_put (cs := #[.string t226, .int .i64 t227, .int .i64 t228, .string t229, .int .i64 0]) ?_ 4 _ rfl; (with_reducible repeat (first | refine blk_drewN ?_ _ | refine blk_drew ?_ | refine blk_alloc ?_ _)); refine blk_put (cs := #[.string t226, .int .i64 t227, .int .i64 t228, .string (⟨#[]⟩ : ByteArray), .int .i64 0]) ?_ 3 _ rfl; (with_reducible repeat (first | refine blk_drewN ?_ _ | refine blk_drew ?_ | refine blk_alloc ?_ _)); refine blk_put (cs := #[.string t226, .int .i64 t227, .int .i64 0, .string (⟨#[]⟩ : ByteArray), .int .i64 0]) ?_ 2 _ rfl; (with_reducible repeat (first | refine blk_drewN ?_ _ | refine blk_drew ?_ | refine blk_alloc ?_ _)); refine blk_put (cs := #[.string t226, .int .i64 0, .int .i64 0, .string (⟨#[]⟩ : ByteArray), .int .i64 0]) ?_ 1 _ rfl; (with_reducible repeat (first | refine blk_drewN ?_ _ | refine blk_drew ?_ | refine blk_alloc ?_ _)); refine blk_put (cs := #[.string (⟨#[]⟩ : ByteArray), .int .i64 0, .int .i64 0, .string (⟨#[]⟩ : ByteArray), .int .i64 0]) ?_ 0 _ rfl; (with_reducible repeat (first | refine blk_drewN ?_ _ | refine blk_drew ?_ | refine blk_alloc ?_ _)); exact BK221.out) Try.underlying26 rfl (z_0) (.tmp .nil)))) rfl ?_
  exact ⟨_, z_13, by (with_reducible repeat (first | apply Kd.R_alloc | apply Kd.R_drewN | apply Kd.R_drew)); exact Kd.R_mono (Kd.R_far (p := ⟨gb221, 4, none⟩) (Kd.R_far (p := ⟨gb221, 3, none⟩) (Kd.R_far (p := ⟨gb221, 2, none⟩) (Kd.R_far (p := ⟨gb221, 1, none⟩) (Kd.R_far (p := ⟨gb221, 0, none⟩) (Kd.R_types HO225.out BK221.out (z_5)) (fun _ hk => hk.2) (.string t226)) (fun _ hk => hk.2) (.int .i64 t227)) (fun _ hk => hk.2) (.int .i64 t228)) (fun _ hk => hk.2) (.string t229)) (fun _ hk => hk.2) (.int .i64 t230)) (fun _ hk => trivial), z_65⟩
 ·replace c6 := Bool.eq_false_iff.mpr c6
  subst c6
  rw [if_neg (show ¬ (false = true) by decide)] at H
  simp only [Option.some.injEq, Prod.mk.injEq] at H
  obtain ⟨rfl, rfl, rfl, rfl, rfl, rfl, rfl⟩ := H
  go_enter Try.func44, Try.ntmps44
  go_wp2_with (first | ((with_reducible refine gate_dst (N := 9) rfl ?_); refine box_event ?hg (N := 9) ?hd (cs := #[.string (⟨#[]⟩ : ByteArray), .int .i64 0, .int .i64 0, .string (⟨#[]⟩ : ByteArray), .int .i64 0]) (t := 26) ?hr ?_; (case hd => rfl); (case hg => rfl); (case hr => exact z_9); intro gb221 hg w12 hbox hb; have n0_ := Aside0.mk (below_step (z_8) hb); have n1_ := Aside0.mk (hbox); have n2_ := Aside0.mk ((z_20 : w.heap.size ≤ gb221)); have n3_ := Aside0.mk ((z_20 : w.heap.size ≤ gb221)); clear HB; have HB := n0_; have BK221 := n1_; have GW221 := n2_; have GE221 := n3_; clear n0_ n1_ n2_ n3_; clear hb hbox hg) | ((with_reducible refine gate_callee (f := 73) rfl ?_); refine goesL_ (some 15) rfl rfl Try.func73 (z_0) rfl #[.slice A0 l0.length c0, .slice A1 l1.length c1, .string a2, .int .i64 a3] rfl (z_14) ?_; (with_reducible refine (impl_keptOk.calls k _ _ l0 _ _ l1 a2 a3 false _ ?side1 ?side2 ?side3 ?side4 A5.out).mono ?_); (case side1 => exact z_33); (case side2 => exact HC0.out); (case side3 => exact z_32); (case side4 => exact HC1.out); rintro e w13 ⟨rfl, hb⟩; refine ⟨_, rfl, ?_⟩; have n0_ := Aside0.mk (blk_below (g := gb221) (o := .cells #[.string (⟨#[]⟩ : ByteArray), .int .i64 0, .int .i64 0, .string (⟨#[]⟩ : ByteArray), .int .i64 0] 26 (0, 0)) (z_64) hb); have n1_ := Aside0.mk (below_step (z_65) hb); clear BK221; clear HB; have BK221 := n0_; have HB := n1_; clear n0_ n1_; (try clear hb); (try clear hb2); (try clear hk); (try clear hi); have hcz14_0 : w13.cell? ⟨gb221, 0, none⟩ = some (.string (⟨#[]⟩ : ByteArray)) := (blk_cell BK221.out 0).trans rfl; have hcz14_1 : w13.cell? ⟨gb221, 1, none⟩ = some (.int .i64 0) := (blk_cell BK221.out 1).trans rfl; have hcz14_2 : w13.cell? ⟨gb221, 2, none⟩ = some (.int .i64 0) := (blk_cell BK221.out 2).trans rfl; have hcz14_3 : w13.cell? ⟨gb221, 3, none⟩ = some (.string (⟨#[]⟩ : ByteArray)) := (blk_cell BK221.out 3).trans rfl; have hcz14_4 : w13.cell? ⟨gb221, 4, none⟩ = some (.int .i64 0) := (blk_cell BK221.out 4).trans rfl; have hfz14_0 := blk_frozen BK221.out 0; have hfz14_1 := blk_frozen BK221.out 1; have hfz14_2 := blk_frozen BK221.out 2; have hfz14_3 := blk_frozen BK221.out 3; have hfz14_4 := blk_frozen BK221.out 4))
  refine bodyPost_ret (results_list (rs := [.tmp 8, .cell 9 26, .tmp 10]) rfl (z_12) (.tmp (.cell gb221 26 #[.string (⟨#[]⟩ : ByteArray), .int .i64 0, .int .i64 0, .string (⟨#[]⟩ : ByteArray), .int .i64 0] (0, 0) _ rfl (by (with_reducible repeat (first | refine blk_drewN ?_ _ | refine blk_drew ?_ | refine blk_alloc ?_ _)); refine blk_put (cs := #[.string (⟨#[]⟩ : ByteArray), .int .i64 0, .int .i64 0, .string (⟨#[]⟩ : ByteArray), .int .i64 0]) ?_ 4 _ rfl; (with_reducible repeat (first | refine blk_drewN ?_ _ | refine blk_drew ?_ | refine blk_alloc ?_ _)); refine blk_put (cs := #[.string (⟨#[]⟩ : ByteArray), .int .i64 0, .int .i64 0, .string (⟨#[]⟩ : ByteArray), .int .i64 0]) ?_ 3 _ rfl; (with_reducible repeat (first | refine blk_drewN ?_ _ | refine blk_drew ?_ | refine blk_alloc ?_ _)); refine blk_put (cs := #[.string (⟨#[]⟩ : ByteArray), .int .i64 0, .int .i64 0, .string (⟨#[]⟩ : ByteArray), .int .i64 0]) ?_ 2 _ rfl; (with_reducible repeat (first | refine blk_drewN ?_ _ | refine blk_drew ?_ | refine blk_alloc ?_ _)); refine blk_put (cs := #[.string (⟨#[]⟩ : ByteArray), .int .i64 0, .int .i64 0, .string (⟨#[]⟩ : ByteArray), .int .i64 0]) ?_ 1 _ rfl; (with_reducible repeat (first | refine blk_drewN ?_ _ | refine blk_drew ?_ | refine blk_alloc ?_ _)); refine blk_put (cs := #[.string (⟨#[]⟩ : ByteArray), .int .i64 0, .int .i64 0, .string (⟨#[]⟩ : ByteArray), .int .i64 0]) ?_ 0 _ rfl; (with_reducible repeat (first | refine blk_drewN ?_ _ | refine blk_drew ?_ | refine blk_alloc ?_ _)); exact BK221.out) Try.underlying26 rfl (z_0) (.tmp .nil)))) rfl ?_
  exact ⟨_, z_13, z_16, z_65⟩

/-! ### spec_l1In: function 55 -/
def spec_l1In.f (a0 : Int) (a1 : Int) (a2 : Int) : Option (Bool) := if a0 ≥ a1 then (some (decide (a0 ≤ a2))) else (some false)
set_option maxHeartbeats 8000000 in
set_option maxRecDepth 100000 in
theorem spec_l1In.calls (a0 : Int) (a1 : Int) (a2 : Int) (r : Bool) (w : World) (h : spec_l1In.f a0 a1 a2 = some r) :
  Calls Try.prog 55 #[.int .i64 a0, .int .i64 a1, .int .i64 a2] w fun e w' => e = .returned (.bool r) ∧ Drawn0 w w' := by
 have H : (if a0 ≥ a1 then (some (decide (a0 ≤ a2))) else (some false)) = some r := h
 clear h
 by_cases c4 : a0 ≥ a1
 ·rw [if_pos c4] at H
  have c4b0 : decide (a1 ≤ a0) = true := decide_eq_true c4
  clear c4
  obtain rfl := Option.some.inj H
  go_enter Try.func55, Try.ntmps55
  go_wp2
  go_ret
  exact ⟨z_3, z_4⟩
 ·rw [if_neg c4] at H
  have c4b0 : decide (a1 ≤ a0) = false := decide_eq_false c4
  clear c4
  obtain rfl := Option.some.inj H
  go_enter Try.func55, Try.ntmps55
  go_wp2
  go_ret
  exact ⟨z_3, z_4⟩

end Go.Proofs.Ytmgnmgobibpjjaa.GFnKeptAsk
