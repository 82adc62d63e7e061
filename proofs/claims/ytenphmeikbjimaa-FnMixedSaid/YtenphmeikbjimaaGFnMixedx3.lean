/- What the Go functions that FnMixed reaches come to, walked step by step; there is no condition beyond those each statement names. -/
import Derived.Test.YtenphmeikbjimaaGFnMixedx0
import Derived.Test.YtenphmeikbjimaaGFnMixedx2
namespace Go.Proofs.Ytenphmeikbjimaa.GFnMixed
open Go.RowKit Go.Proofs.YtenphmeikbjimaaVMixed.PrintWords Go.Proofs.YtenphmeikbjimaaVMixed.PrintLast Go.Proofs.YtenphmeikbjimaaVMixed.PrintMore
attribute [local go_sem] max2_int min2_int max_two min_two max_three min_three max_four min_four   -- for this text's walks alone
set_option linter.unusedVariables false
set_option linter.unusedSimpArgs false

/-! ### spec_BytesOf: function 28 -/
mutual
def spec_BytesOf.j0 : Nat → Int → Int → Bool → Option (List Int)
 | 0, _, _, _ => none
 | k + 1, x0, x1, x18 => if x18 = true then (some (([] : List Int))) else (spec_BytesOf.l0 k x0 (([] : List Int)) (wrap64 (x1 - 1)))
def spec_BytesOf.l0 : Nat → Int → List Int → Int → Option (List Int)
 | 0, _, _, _ => none
 | k + 1, x0, x5, x6 => if x6 ≥ 0 then (if 0 ≤ (wrap64 (8 * x6)) then (if x5.length < 140737488355328 then (spec_BytesOf.l0 k x0 (x5 ++ [(Int.tmod (shr .i64 x0 (wrap64 (8 * x6))) 256) % 256]) (wrap64 (x6 - 1))) else (none)) else (none)) else (some x5)
end
def spec_BytesOf.f (k : Nat) (a0 : Int) (a1 : Int) : Option (List Int) := (spec_l1In.f a1 1 4).bind fun t203 => (if t203 = true then (if 0 ≤ (wrap64 (8 * a1)) then ((spec_l1In.f a0 0 (wrap64 ((shl .i64 1 (wrap64 (8 * a1))) - 1))).bind fun t204 => (spec_BytesOf.j0 k a0 a1 (!t204))) else (none)) else (spec_BytesOf.j0 k a0 a1 true))
theorem spec_BytesOf.mono_l : ∀ k, (∀ y0 y1 y2, LeO (spec_BytesOf.j0 k y0 y1 y2) (spec_BytesOf.j0 (k + 1) y0 y1 y2)) ∧ (∀ y0 y1 y2, LeO (spec_BytesOf.l0 k y0 y1 y2) (spec_BytesOf.l0 (k + 1) y0 y1 y2))
 | 0 => ⟨fun _ _ _ r h => by simp [spec_BytesOf.j0] at h, fun _ _ _ r h => by simp [spec_BytesOf.l0] at h⟩
 | k + 1 => by
  obtain ⟨ih0, ih1⟩ := spec_BytesOf.mono_l k
  refine ⟨?_, ?_⟩
  ·intro y0 y1 y2
   unfold spec_BytesOf.j0
   repeat' first
   | (with_reducible exact ih0 _ _ _)
   | (with_reducible exact ih1 _ _ _)
   | (with_reducible exact LeO.refl _)
   | (with_reducible exact LeO.none _)
   | (with_reducible refine LeO.ite ?_ ?_)
   | (with_reducible refine LeO.bind ?_ (fun _ => ?_))
   | exact ih0 _ _ _
   | exact ih1 _ _ _
   | exact LeO.none _
   | refine LeO.ite ?_ ?_
   | refine LeO.bind ?_ (fun _ => ?_)
  ·intro y0 y1 y2
   unfold spec_BytesOf.l0
   repeat' first
   | (with_reducible exact ih0 _ _ _)
   | (with_reducible exact ih1 _ _ _)
   | (with_reducible exact LeO.refl _)
   | (with_reducible exact LeO.none _)
   | (with_reducible refine LeO.ite ?_ ?_)
   | (with_reducible refine LeO.bind ?_ (fun _ => ?_))
   | exact ih0 _ _ _
   | exact ih1 _ _ _
   | exact LeO.none _
   | refine LeO.ite ?_ ?_
   | refine LeO.bind ?_ (fun _ => ?_)
theorem spec_BytesOf.mono : ∀ a0 a1 k, LeO (spec_BytesOf.f k a0 a1) (spec_BytesOf.f (k + 1) a0 a1) := by
 intro a0 a1 k
 obtain ⟨ih0, ih1⟩ := spec_BytesOf.mono_l k
 unfold spec_BytesOf.f
 repeat' first
   | (with_reducible exact ih0 _ _ _)
   | (with_reducible exact ih1 _ _ _)
   | (with_reducible exact LeO.refl _)
   | (with_reducible exact LeO.none _)
   | (with_reducible refine LeO.ite ?_ ?_)
   | (with_reducible refine LeO.bind ?_ (fun _ => ?_))
   | exact ih0 _ _ _
   | exact ih1 _ _ _
   | exact LeO.none _
   | refine LeO.ite ?_ ?_
   | refine LeO.bind ?_ (fun _ => ?_)
set_option maxHeartbeats 8000000 in
set_option maxRecDepth 100000 in
theorem spec_BytesOf.calls (k : Nat) (a0 : Int) (a1 : Int) (r : List Int) (w : World) (h : spec_BytesOf.f k a0 a1 = some r) :
  Calls Try.prog 28 #[.int .i64 a0, .int .i64 a1] w fun e w' => ∃ v0_ : Value, e = .returned (v0_) ∧ Kd.R (Kd.int .u8) 5 w' w.heap.size (fun _ => True) v0_ r ∧ Below w.heap.size w w' := by
 have HB := Aside0.mk (Below.refl w.heap.size w)
 have H : ((spec_l1In.f a1 1 4).bind fun t203 => (if t203 = true then (if 0 ≤ (wrap64 (8 * a1)) then ((spec_l1In.f a0 0 (wrap64 ((shl .i64 1 (wrap64 (8 * a1))) - 1))).bind fun t204 => (spec_BytesOf.j0 k a0 a1 (!t204))) else (none)) else (spec_BytesOf.j0 k a0 a1 true))) = some r := h
 clear h
 have HC3 := Aside0.mk H
 clear H
 go_enter Try.func28, Try.ntmps28
 go_upto_region 1 with (fail)
 go_cut [18] (fun v18 wc => ∃ (kq : Nat) (x18_2 : Bool), v18 = .bool x18_2 ∧ Aside0 (spec_BytesOf.j0 kq a0 a1 x18_2 = some r) ∧ Aside0 (kq ≤ k) ∧ Aside0 (Below w.heap.size w wc))
 case first =>
  have H := HC3.out
  clear HC3
  replace H := Option.bind_eq_some_iff.mp H
  obtain ⟨t203, A40, H⟩ := H
  have A4 := Aside0.mk A40
  clear A40
  by_cases c5 : t203 = true
  ·subst c5
   rw [if_pos rfl] at H
   obtain ⟨ji6, hji6⟩ : ∃ j_ : Int, (wrap64 (8 * a1)) = j_ := ⟨_, rfl⟩
   replace H : (if 0 ≤ (ji6) then ((spec_l1In.f a0 0 (wrap64 ((shl .i64 1 (ji6)) - 1))).bind fun t204 => (spec_BytesOf.j0 k a0 a1 (!t204))) else (none)) = some r := by first | (rw [hji6] at H; exact H) | (simp only [hji6] at H ⊢; exact H)
   (try rw [hji6] at A4)
   have hji6w : (IntKind.i64.wrap (8 * a1)) = ji6 := (i64_w _).trans hji6
   by_cases c7 : 0 ≤ (ji6)
   ·rw [if_pos c7] at H
    have c7b0 := eq_true c7
    have c7b1 : decide (0 ≤ (ji6)) = true := decide_eq_true c7
    clear c7
    obtain ⟨ji8, hji8⟩ : ∃ j_ : Int, (shl .i64 1 (ji6)) = j_ := ⟨_, rfl⟩
    replace H : ((spec_l1In.f a0 0 (wrap64 ((ji8) - 1))).bind fun t204 => (spec_BytesOf.j0 k a0 a1 (!t204))) = some r := by first | (rw [hji8] at H; exact H) | (simp only [hji8] at H ⊢; exact H)
    (try rw [hji8] at A4)
    have hji8_ : (IntKind.i64.wrap (1 * 2 ^ min (ji6).toNat 64)) = ji8 := hji8
    have hji8z : (ji6) ≤ 64 → (IntKind.i64.wrap (1 * 2 ^ (ji6).toNat)) = ji8 := shl_small hji8
    have hji8u : (IntKind.i64.wrap (2 ^ min (ji6).toNat 64)) = ji8 := by have h_ := hji8_; rw [Int.one_mul] at h_; exact h_
    have hji8v : (ji6) ≤ 64 → (IntKind.i64.wrap (2 ^ (ji6).toNat)) = ji8 := fun hle_ => by have h_ := hji8z hle_; rw [Int.one_mul] at h_; exact h_
    have hji8y : (wrap64 (1 * 2 ^ min (ji6).toNat 64)) = ji8 := (i64_w _).symm.trans hji8_
    have hji8x : (ji6) ≤ 64 → (wrap64 (1 * 2 ^ (ji6).toNat)) = ji8 := fun h_ => (i64_w _).symm.trans (hji8z h_)
    replace H := Option.bind_eq_some_iff.mp H
    obtain ⟨t204, A90, H⟩ := H
    have A9 := Aside0.mk A90
    clear A90
    have H' := Aside0.mk H
    clear H
    go_wp2_with (first | ((with_reducible refine gate_callee (f := 17) rfl ?_); refine goesL_ (some 8) rfl rfl Try.func17 (z_0) rfl #[.int .i64 a1, .int .i64 1, .int .i64 4] rfl (z_13) ?_; (with_reducible refine (spec_l1In.calls a1 1 4 true _ A4.out).mono ?_); rintro e w' ⟨rfl, ⟨nd, rfl⟩⟩; refine ⟨_, rfl, ?_⟩) | (go_at_call 17; (with_reducible refine (spec_l1In.calls a0 0 (wrap64 ((ji8) - 1)) t204 _ A9.out).mono ?_); rintro e w' ⟨rfl, ⟨nd, rfl⟩⟩))
    go_meet
    case rel => exact ⟨_, (!t204), (z_7), H', ⟨z_8⟩, ⟨z_5⟩⟩
   ·rw [if_neg c7] at H
    exact absurd H (z_1)
  ·replace c5 := Bool.eq_false_iff.mpr c5
   subst c5
   rw [if_neg (show ¬ (false = true) by decide)] at H
   have H' := Aside0.mk H
   clear H
   go_wp2_with (first | ((with_reducible refine gate_callee (f := 17) rfl ?_); refine goesL_ (some 8) rfl rfl Try.func17 (z_0) rfl #[.int .i64 a1, .int .i64 1, .int .i64 4] rfl (z_13) ?_; (with_reducible refine (spec_l1In.calls a1 1 4 false _ A4.out).mono ?_); rintro e w' ⟨rfl, ⟨nd, rfl⟩⟩; refine ⟨_, rfl, ?_⟩))
   go_meet
   case rel => exact ⟨_, (true), (z_7), H', ⟨z_8⟩, ⟨z_5⟩⟩
 case rest =>
  clear HC3
  try clear c1
  try clear c2
  try clear p2
  try clear c5
  try clear p6
  try clear c7
  try clear c7b0
  try clear c7b1
  obtain ⟨kq, x18_2, rfl, HA, HJ2, HB⟩ := hcut
  cases kq with
  | zero => exact absurd HA.out (by simp [spec_BytesOf.j0])
  | succ kj2 =>
   have H := HA.out
   clear HA
   simp only [spec_BytesOf.j0] at H
   by_cases c10 : x18_2 = true
   ·subst c10
    rw [if_pos rfl] at H
    obtain ⟨y205, hy205⟩ : ∃ y_ : List Int, y_ = (([] : List Int)) := ⟨_, rfl⟩
    replace H : (some y205) = some r := by first | (rw [hy205]; with_reducible exact H) | (have H2_ := (Option.bind_some _ _).symm.trans H; rw [hy205]; with_reducible exact H2_) | (have H2_ := (Option.bind_some _ _).symm.trans H; with_reducible exact H2_) | with_reducible exact H | (rw [hy205]; exact H) | exact H
    have Ny205 := Aside0.mk hy205
    clear hy205
    obtain rfl := Option.some.inj H
    go_wp2_with (first | ((with_reducible refine gate_dst (N := 19) rfl ?_); refine Kd.R_lit (Kd.int .u8) _ 5 ?hg (N := 19) ?hd (xs := ([] : List Int)) (inner := []) (ok := fun _ => True) (okp := fun _ => True) ?hr ?hp (fun _ hk => hk) trivial (Below.refl _ _) (Nat.le_refl _) (z_1) ?_; (case hd => rfl); (case hg => rfl); (case hr => exact z_4); (case hp => exact (Reps.none _ _)); intro v206 w11 ho12 hb hg_ hnew_; clear hg_ hnew_; (first | rw [← Ny205.out] at ho12 | (simp only [Int.reduceToNat] at ho12; rw [← Ny205.out] at ho12)); have n0_ := Aside0.mk (Kd.R_lower ho12 (below_size (z_5))); have n1_ := Aside0.mk (below_step (z_5) hb); clear HB; have HO207 := n0_; have HB := n1_; clear n0_ n1_; clear hb ho12))
    go_ret
    exact ⟨_, z_12, by (with_reducible repeat (first | apply Kd.R_alloc | apply Kd.R_drewN | apply Kd.R_drew)); exact HO207.out, z_5⟩
   ·replace c10 := Bool.eq_false_iff.mpr c10
    subst c10
    rw [if_neg (show ¬ (false = true) by decide)] at H
    obtain ⟨y208, hy208⟩ : ∃ y_ : List Int, y_ = (([] : List Int)) := ⟨_, rfl⟩
    replace H : (spec_BytesOf.l0 kj2 a0 y208 (wrap64 (a1 - 1))) = some r := by first | (rw [hy208]; with_reducible exact H) | (have H2_ := (Option.bind_some _ _).symm.trans H; rw [hy208]; with_reducible exact H2_) | (have H2_ := (Option.bind_some _ _).symm.trans H; with_reducible exact H2_) | with_reducible exact H | (rw [hy208]; exact H) | exact H
    have Ny208 := Aside0.mk hy208
    clear hy208
    have H' := Aside0.mk H
    clear H
    go_wp2_with (first | ((with_reducible refine gate_dst (N := 20) rfl ?_); refine Kd.R_lit (Kd.int .u8) _ 5 ?hg (N := 20) ?hd (xs := ([] : List Int)) (inner := []) (ok := fun _ => True) (okp := fun _ => True) ?hr ?hp (fun _ hk => hk) trivial (Below.refl _ _) (Nat.le_refl _) (z_1) ?_; (case hd => rfl); (case hg => rfl); (case hr => exact z_4); (case hp => exact (Reps.none _ _)); intro v209 w13 ho14 hb hg_ hnew_; clear hg_ hnew_; (first | rw [← Ny208.out] at ho14 | (simp only [Int.reduceToNat] at ho14; rw [← Ny208.out] at ho14)); have n0_ := Aside0.mk (Kd.R_lower ho14 (below_size (z_5))); have n1_ := Aside0.mk (below_step (z_5) hb); clear HB; have HO210 := n0_; have HB := n1_; clear n0_ n1_; clear hb ho14))
    go_loopg [5, 6] kj2 (fun kq v5 v6 w' => ∃ (x5_2 : List Int) (x6_2 : Int), v6 = .int .i64 x6_2 ∧ Aside0 (spec_BytesOf.l0 kq a0 x5_2 x6_2 = some r) ∧ Aside0 (kq ≤ kj2) ∧ Aside0 (Kd.R (Kd.int .u8) 5 w' w.heap.size (fun _ => True) v5 x5_2) ∧ Aside0 (Below w.heap.size w w'))
    case atStart => exact ⟨(y208), (wrap64 (a1 - 1)), (z_7), H', ⟨Nat.le_refl _⟩, ⟨by (with_reducible repeat (first | apply Kd.R_alloc | apply Kd.R_drewN | apply Kd.R_drew)); exact HO210.out⟩, ⟨z_5⟩⟩
    case round =>
     clear H'
     try clear c1
     try clear c2
     try clear p2
     try clear c5
     try clear p6
     try clear c7
     try clear c7b0
     try clear c7b1
     try clear c10
     try clear p2
     try clear p6
     obtain ⟨x5_2, x6_2, rfl, HA, HK2, HO_5, HB⟩ := hrel
     cases gk with
     | zero => exact absurd HA.out (by simp [spec_BytesOf.l0])
     | succ k2 =>
      have H := HA.out
      clear HA
      simp only [spec_BytesOf.l0] at H
      by_cases c15 : x6_2 ≥ 0
      ·rw [if_pos c15] at H
       have c15b0 : decide (0 ≤ x6_2) = true := decide_eq_true c15
       clear c15
       obtain ⟨ji16, hji16⟩ : ∃ j_ : Int, (wrap64 (8 * x6_2)) = j_ := ⟨_, rfl⟩
       replace H : (if 0 ≤ (ji16) then (if x5_2.length < 140737488355328 then (spec_BytesOf.l0 k2 a0 (x5_2 ++ [(Int.tmod (shr .i64 a0 (ji16)) 256) % 256]) (wrap64 (x6_2 - 1))) else (none)) else (none)) = some r := by first | (rw [hji16] at H; exact H) | (simp only [hji16] at H ⊢; exact H)
       have hji16w : (IntKind.i64.wrap (8 * x6_2)) = ji16 := (i64_w _).trans hji16
       by_cases c17 : 0 ≤ (ji16)
       ·rw [if_pos c17] at H
        have c17b0 := eq_true c17
        have c17b1 : decide (0 ≤ (ji16)) = true := decide_eq_true c17
        clear c17
        obtain ⟨ji18, hji18⟩ : ∃ j_ : Int, (shr .i64 a0 (ji16)) = j_ := ⟨_, rfl⟩
        replace H : (if x5_2.length < 140737488355328 then (spec_BytesOf.l0 k2 a0 (x5_2 ++ [(Int.tmod (ji18) 256) % 256]) (wrap64 (x6_2 - 1))) else (none)) = some r := by first | (rw [hji18] at H; exact H) | (simp only [hji18] at H ⊢; exact H)
        have hji18_ : (a0 / 2 ^ min (ji16).toNat 64) = ji18 := hji18
        have hji18z : (ji16) ≤ 64 → (a0 / 2 ^ (ji16).toNat) = ji18 := shr_small hji18
        by_cases c19 : x5_2.length < 140737488355328
        ·rw [if_pos c19] at H
         have LMc19 := Aside0.mk c19
         clear c19
         obtain ⟨y211, hy211⟩ : ∃ y_ : List Int, y_ = (x5_2 ++ [(Int.tmod (ji18) 256) % 256]) := ⟨_, rfl⟩
         replace H : (spec_BytesOf.l0 k2 a0 y211 (wrap64 (x6_2 - 1))) = some r := by first | (rw [hy211]; with_reducible exact H) | (have H2_ := (Option.bind_some _ _).symm.trans H; rw [hy211]; with_reducible exact H2_) | (have H2_ := (Option.bind_some _ _).symm.trans H; with_reducible exact H2_) | with_reducible exact H | (rw [hy211]; exact H) | exact H
         have Ny211 := Aside0.mk hy211
         clear hy211
         have H' := Aside0.mk H
         clear H
         go_wp2_with (first | ((with_reducible refine gate_builtin (b := .append) (xs := #[.tmp 27, .tmp 34]) rfl ?_); at_builtin; refine Kd.R_append (Kd.int .u8) (w0 := w) w.heap.size rfl (.tmp 27) (.tmp 34) 22 5 (.int .u8 0) 1 rfl Try.underlying22 info5 rfl (z_15) (z_2) u5 x5_2 ((Int.tmod (ji18) 256) % 256) [.int .u8 ((Int.tmod (ji18) 256) % 256)] (fun _ => True) (fun _ => False) rfl rfl ?aP (fun _ hk => hk.elim) ?aF ?aO ?aB ?aS ?aL ?_; (case aP => exact rfl); (case aB => exact z_24); (case aF => exact z_16); (case aO => exact z_17); (case aS => exact z_27); (case aL => have := LMc19.out; omega); intro v212 w20 ho hb hg hat; rw [← Ny211.out] at ho; have n0_ := Aside0.mk (hb); have n1_ := Aside0.mk (ho); clear HB; clear HO_5; have HB := n0_; have HO213 := n1_; clear n0_ n1_; clear ho hb hg hat))
         go_roundg k2
         case measure => have := HJ2.out; have := HK2.out; omega
         case rel => exact ⟨(y211), (wrap64 (x6_2 - 1)), (z_7), H', ⟨z_37⟩, ⟨by (with_reducible repeat (first | apply Kd.R_alloc | apply Kd.R_drewN | apply Kd.R_drew)); exact HO213.out⟩, ⟨z_5⟩⟩
        ·rw [if_neg c19] at H
         exact absurd H (z_1)
       ·rw [if_neg c17] at H
        exact absurd H (z_1)
      ·rw [if_neg c15] at H
       have c15b0 : decide (0 ≤ x6_2) = false := decide_eq_false c15
       clear c15
       obtain rfl := Option.some.inj H
       go_wp2
       go_ret
       exact ⟨_, z_12, z_14, z_5⟩

/-! ### spec_RecordBytes: function 18 -/
def spec_RecordBytes.f (k : Nat) (a0 : Int) (a1 : Int) (l2 : List Int) (a3 : Bool) : Option (List Int) := (spec_SealOf.f k a0 a1 l2 a3).bind fun t214 => (if t214 < 0 then (some (([] : List Int))) else (if a3 = true then ((some (([(wrap64 ((l2.length : Int) + 128)) % 256] : List Int) : List Int)).bind fun y218 => (if y218.length + l2.length < 140737488355328 then ((some (y218 ++ l2 : List Int)).bind fun y221 => ((spec_BytesOf.f k t214 2).bind fun t224 => (if y221.length + t224.length < 140737488355328 then (some (y221 ++ t224)) else (none)))) else (none))) else ((some (([((l2.length : Int)) % 256] : List Int) : List Int)).bind fun y230 => (if y230.length + l2.length < 140737488355328 then ((some (y230 ++ l2 : List Int)).bind fun y233 => ((spec_BytesOf.f k t214 2).bind fun t236 => (if y233.length + t236.length < 140737488355328 then (some (y233 ++ t236)) else (none)))) else (none)))))
theorem spec_RecordBytes.mono : ∀ a0 a1 a2 a3 k, LeO (spec_RecordBytes.f k a0 a1 a2 a3) (spec_RecordBytes.f (k + 1) a0 a1 a2 a3) := by
 intro a0 a1 a2 a3 k
 unfold spec_RecordBytes.f
 repeat' first
   | (with_reducible exact spec_BytesOf.mono _ _ _)
   | (with_reducible exact spec_SealOf.mono _ _ _ _ _)
   | (with_reducible exact LeO.refl _)
   | (with_reducible exact LeO.none _)
   | (with_reducible refine LeO.ite ?_ ?_)
   | (with_reducible refine LeO.bind ?_ (fun _ => ?_))
   | exact spec_BytesOf.mono _ _ _
   | exact spec_SealOf.mono _ _ _ _ _
   | exact LeO.none _
   | refine LeO.ite ?_ ?_
   | refine LeO.bind ?_ (fun _ => ?_)
set_option maxHeartbeats 8000000 in
set_option maxRecDepth 100000 in
theorem spec_RecordBytes.calls (k : Nat) (a0 : Int) (a1 : Int) (A2 : Option Addr) (c2 : Nat) (l2 : List Int) (a3 : Bool) (r : List Int) (w : World) (hr2 : Kd.C (Kd.int .u8) w A2 l2.length l2) (hc2 : l2.length ≤ c2) (h : spec_RecordBytes.f k a0 a1 l2 a3 = some r) :
  Calls Try.prog 18 #[.int .i64 a0, .int .i64 a1, .slice A2 l2.length c2, .bool a3] w fun e w' => ∃ v0_ : Value, e = .returned (v0_) ∧ Kd.R (Kd.int .u8) 5 w' w.heap.size (fun _ => True) v0_ r ∧ Below w.heap.size w w' := by
 have HR2 := Aside0.mk hr2
 have HC2 := Aside0.mk hc2
 clear hr2 hc2
 have HB := Aside0.mk (Below.refl w.heap.size w)
 have H : ((spec_SealOf.f k a0 a1 l2 a3).bind fun t214 => (if t214 < 0 then (some (([] : List Int))) else (if a3 = true then ((some (([(wrap64 ((l2.length : Int) + 128)) % 256] : List Int) : List Int)).bind fun y218 => (if y218.length + l2.length < 140737488355328 then ((some (y218 ++ l2 : List Int)).bind fun y221 => ((spec_BytesOf.f k t214 2).bind fun t224 => (if y221.length + t224.length < 140737488355328 then (some (y221 ++ t224)) else (none)))) else (none))) else ((some (([((l2.length : Int)) % 256] : List Int) : List Int)).bind fun y230 => (if y230.length + l2.length < 140737488355328 then ((some (y230 ++ l2 : List Int)).bind fun y233 => ((spec_BytesOf.f k t214 2).bind fun t236 => (if y233.length + t236.length < 140737488355328 then (some (y233 ++ t236)) else (none)))) else (none)))))) = some r := h
 clear h
 replace H := Option.bind_eq_some_iff.mp H
 obtain ⟨t214, A50, H⟩ := H
 have A5 := Aside0.mk A50
 clear A50
 by_cases c6 : t214 < 0
 ·rw [if_pos c6] at H
  have c6b0 : decide (t214 < 0) = true := decide_eq_true c6
  clear c6
  obtain ⟨y215, hy215⟩ : ∃ y_ : List Int, y_ = (([] : List Int)) := ⟨_, rfl⟩
  replace H : (some y215) = some r := by first | (rw [hy215]; with_reducible exact H) | (have H2_ := (Option.bind_some _ _).symm.trans H; rw [hy215]; with_reducible exact H2_) | (have H2_ := (Option.bind_some _ _).symm.trans H; with_reducible exact H2_) | with_reducible exact H | (rw [hy215]; exact H) | exact H
  have Ny215 := Aside0.mk hy215
  clear hy215
  obtain rfl := Option.some.inj H
  go_enter Try.func18, Try.ntmps18
  go_wp2_with (first | ((with_reducible refine gate_callee (f := 27) rfl ?_); refine goesL_ (some 15) rfl rfl Try.func27 (z_0) rfl #[.int .i64 a0, .int .i64 a1, .slice A2 l2.length c2, .bool a3] rfl (z_13) ?_; (with_reducible refine (spec_SealOf.calls k a0 a1 _ _ l2 a3 t214 _ ?side1 ?side2 A5.out).mono ?_); (case side1 => exact z_29); (case side2 => exact HC2.out); rintro e w' ⟨rfl, ⟨nd, rfl⟩⟩; refine ⟨_, rfl, ?_⟩) | ((with_reducible refine gate_dst (N := 18) rfl ?_); refine Kd.R_lit (Kd.int .u8) _ 5 ?hg (N := 18) ?hd (xs := ([] : List Int)) (inner := []) (ok := fun _ => True) (okp := fun _ => True) ?hr ?hp (fun _ hk => hk) trivial (Below.refl _ _) (Nat.le_refl _) (z_1) ?_; (case hd => rfl); (case hg => rfl); (case hr => exact z_4); (case hp => exact (Reps.none _ _)); intro v216 w7 ho8 hb hg_ hnew_; clear hg_ hnew_; (first | rw [← Ny215.out] at ho8 | (simp only [Int.reduceToNat] at ho8; rw [← Ny215.out] at ho8)); have n0_ := Aside0.mk (Kd.R_lower ho8 (below_size (z_5))); have n1_ := Aside0.mk (below_step (z_5) hb); clear HB; have HO217 := n0_; have HB := n1_; clear n0_ n1_; clear hb ho8))
  go_ret
  exact ⟨_, z_12, by (with_reducible repeat (first | apply Kd.R_alloc | apply Kd.R_drewN | apply Kd.R_drew)); exact HO217.out, z_5⟩
 ·rw [if_neg c6] at H
  have c6b0 : decide (t214 < 0) = false := decide_eq_false c6
  clear c6
  by_cases c9 : a3 = true
  ·subst c9
   rw [if_pos rfl] at H
   obtain ⟨y218, hy218⟩ : ∃ y_ : List Int, y_ = (([(wrap64 ((l2.length : Int) + 128)) % 256] : List Int)) := ⟨_, rfl⟩
   replace H : (if y218.length + l2.length < 140737488355328 then ((some (y218 ++ l2 : List Int)).bind fun y221 => ((spec_BytesOf.f k t214 2).bind fun t224 => (if y221.length + t224.length < 140737488355328 then (some (y221 ++ t224)) else (none)))) else (none)) = some r := by first | (rw [hy218]; with_reducible exact H) | (have H2_ := (Option.bind_some _ _).symm.trans H; rw [hy218]; with_reducible exact H2_) | (have H2_ := (Option.bind_some _ _).symm.trans H; with_reducible exact H2_) | with_reducible exact H | (rw [hy218]; exact H) | exact H
   have Ny218 := Aside0.mk hy218
   clear hy218
   by_cases c10 : y218.length + l2.length < 140737488355328
   ·rw [if_pos c10] at H
    have LMc10 := Aside0.mk c10
    clear c10
    obtain ⟨y221, hy221⟩ : ∃ y_ : List Int, y_ = (y218 ++ l2) := ⟨_, rfl⟩
    replace H : ((spec_BytesOf.f k t214 2).bind fun t224 => (if y221.length + t224.length < 140737488355328 then (some (y221 ++ t224)) else (none))) = some r := by first | (rw [hy221]; with_reducible exact H) | (have H2_ := (Option.bind_some _ _).symm.trans H; rw [hy221]; with_reducible exact H2_) | (have H2_ := (Option.bind_some _ _).symm.trans H; with_reducible exact H2_) | with_reducible exact H | (rw [hy221]; exact H) | exact H
    have Ny221 := Aside0.mk hy221
    clear hy221
    replace H := Option.bind_eq_some_iff.mp H
    obtain ⟨t224, A110, H⟩ := H
    have A11 := Aside0.mk A110
    clear A110
    by_cases c12 : y221.length + t224.length < 140737488355328
    ·rw [if_pos c12] at H
     have LMc12 := Aside0.mk c12
     clear c12
     obtain ⟨y227, hy227⟩ : ∃ y_ : List Int, y_ = (y221 ++ t224) := ⟨_, rfl⟩
     replace H : (some y227) = some r := by first | (rw [hy227]; with_reducible exact H) | (have H2_ := (Option.bind_some _ _).symm.trans H; rw [hy227]; with_reducible exact H2_) | (have H2_ := (Option.bind_some _ _).symm.trans H; with_reducible exact H2_) | with_reducible exact H | (rw [hy227]; exact H) | exact H
     have Ny227 := Aside0.mk hy227
     clear hy227
     obtain rfl := Option.some.inj H
     go_enter Try.func18, Try.ntmps18
     go_wp2_with (first | ((with_reducible refine gate_callee (f := 27) rfl ?_); refine goesL_ (some 15) rfl rfl Try.func27 (z_0) rfl #[.int .i64 a0, .int .i64 a1, .slice A2 l2.length c2, .bool true] rfl (z_13) ?_; (with_reducible refine (spec_SealOf.calls k a0 a1 _ _ l2 true t214 _ ?side1 ?side2 A5.out).mono ?_); (case side1 => exact z_29); (case side2 => exact HC2.out); rintro e w' ⟨rfl, ⟨nd, rfl⟩⟩; refine ⟨_, rfl, ?_⟩) | ((with_reducible refine gate_dst (N := 26) rfl ?_); refine Kd.R_lit (Kd.int .u8) _ 5 ?hg (N := 26) ?hd (xs := ([(wrap64 ((l2.length : Int) + 128)) % 256] : List Int)) (inner := [.int .u8 ((wrap64 ((l2.length : Int) + 128)) % 256)]) (ok := fun _ => True) (okp := fun _ => True) ?hr ?hp (fun _ hk => hk) trivial (Below.refl _ _) (Nat.le_refl _) (z_1) ?_; (case hd => rfl); (case hg => rfl); (case hr => exact z_4); (case hp => exact (Reps.one (show Kd.M (Kd.int .u8) _ _ _ ((wrap64 ((l2.length : Int) + 128)) % 256) [.int .u8 ((wrap64 ((l2.length : Int) + 128)) % 256)] from rfl) (Reps.none _ _))); intro v219 w13 ho14 hb hg_ hnew_; clear hg_ hnew_; (first | rw [← Ny218.out] at ho14 | (simp only [Int.reduceToNat] at ho14; rw [← Ny218.out] at ho14)); have n0_ := Aside0.mk (Kd.R_lower ho14 (below_size (z_5))); have n1_ := Aside0.mk (below_step (z_5) hb); clear HB; have HO220 := n0_; have HB := n1_; clear n0_ n1_; clear hb ho14) | ((with_reducible refine gate_builtin (b := .append) (xs := #[.tmp 26, .tmp 27]) rfl ?_); at_builtin; refine Kd.R_append_rows (Kd.int .u8) (w0 := w) w.heap.size rfl (.tmp 26) (.tmp 27) 22 5 (.int .u8 0) 1 rfl Try.underlying22 info5 rfl (z_15) (z_2) v219 y218 l2 _ _ _ (fun _ => True) (fun _ => False) rfl rfl ?aO ?aR (fun _ _ h => h) (fun _ h => h.elim) ?aF ?aB ?aS ?aL ?_; (case aR => exact z_39); (case aB => exact z_24); (case aF => exact z_16); (case aO => exact (by (with_reducible repeat (first | apply Kd.R_alloc | apply Kd.R_drewN | apply Kd.R_drew)); exact HO220.out)); (case aS => exact z_27); (case aL => have := LMc10.out; omega); intro v222 w15 ho hb hg hat; rw [← Ny221.out] at ho; have n0_ := Aside0.mk (hb); have n1_ := Aside0.mk (ho); clear HB; clear HO220; have HB := n0_; have HO223 := n1_; clear n0_ n1_; clear ho hb hg hat) | ((with_reducible refine gate_callee (f := 28) rfl ?_); refine goesL_ (some 30) rfl rfl Try.func28 (z_0) rfl #[.int .i64 t214, .int .i64 2] rfl (z_13) ?_; (with_reducible refine (spec_BytesOf.calls k t214 2 t224 _ A11.out).mono ?_); rintro e w16 ⟨v225, rfl, ho0, hb⟩; refine ⟨_, rfl, ?_⟩; have n0_ := Aside0.mk (Kd.R_elder' (z_40) (Kd.R_base ho0) hb); have n1_ := Aside0.mk (Kd.R_lower (Kd.R_new' ho0 (Kd.R_lt (z_40))) (below_size (z_5))); have n2_ := Aside0.mk (below_step (z_5) hb); clear HO223; clear HB; have HO223 := n0_; have HO226 := n1_; have HB := n2_; clear n0_ n1_ n2_; (try clear hb); (try clear hb2); (try clear hk); (try clear hi); (try clear ho0); obtain ⟨Ao18, co18, eo18⟩ := Kd.R_slice HO226.out; subst eo18) | ((with_reducible refine gate_builtin (b := .append) (xs := #[.tmp 28, .tmp 30]) rfl ?_); at_builtin; refine Kd.R_append_rows (Kd.int .u8) (w0 := w) w.heap.size rfl (.tmp 28) (.tmp 30) 22 5 (.int .u8 0) 1 rfl Try.underlying22 info5 rfl (z_15) (z_2) v222 y221 t224 _ _ _ (fun k_ => some k_ ≠ (.slice Ao18 t224.length co18 : Value).ownBlock) (fun _ => False) rfl rfl ?aO ?aR (fun _ _ h => h) (fun _ h => h.elim) ?aF ?aB ?aS ?aL ?_; (case aR => repeat (first | exact (Kd.R_reads' HO226.out).2.2 | (with_reducible refine Kd.C_alloc ?_ _) | (with_reducible refine Kd.C_drewN ?_ _) | (with_reducible refine Kd.C_drew ?_))); (case aB => exact z_24); (case aF => exact (fun k_ hk => Kd.fresh' (Kd.R_lt (z_41)) k_ hk)); (case aO => exact (by (with_reducible repeat (first | apply Kd.R_alloc | apply Kd.R_drewN | apply Kd.R_drew)); exact Kd.R_mono HO223.out (fun _ hk => hk.2))); (case aS => exact z_27); (case aL => have := LMc12.out; omega); intro v228 w17 ho hb hg hat; rw [← Ny227.out] at ho; have n0_ := Aside0.mk (Kd.R_after (ok := (fun _ => True)) (z_41) hg hat); have n1_ := Aside0.mk (hb); have n2_ := Aside0.mk (ho); clear HO226; clear HB; clear HO223; have HO226 := n0_; have HB := n1_; have HO229 := n2_; clear n0_ n1_ n2_; clear ho hb hg hat))
     go_ret
     exact ⟨_, z_12, by (with_reducible repeat (first | apply Kd.R_alloc | apply Kd.R_drewN | apply Kd.R_drew)); exact Kd.R_mono HO229.out (fun _ hk => trivial), z_5⟩
    ·rw [if_neg c12] at H
     exact absurd H (z_1)
   ·rw [if_neg c10] at H
    exact absurd H (z_1)
  ·replace c9 := Bool.eq_false_iff.mpr c9
   subst c9
   rw [if_neg (show ¬ (false = true) by decide)] at H
   obtain ⟨y230, hy230⟩ : ∃ y_ : List Int, y_ = (([((l2.length : Int)) % 256] : List Int)) := ⟨_, rfl⟩
   replace H : (if y230.length + l2.length < 140737488355328 then ((some (y230 ++ l2 : List Int)).bind fun y233 => ((spec_BytesOf.f k t214 2).bind fun t236 => (if y233.length + t236.length < 140737488355328 then (some (y233 ++ t236)) else (none)))) else (none)) = some r := by first | (rw [hy230]; with_reducible exact H) | (have H2_ := (Option.bind_some _ _).symm.trans H; rw [hy230]; with_reducible exact H2_) | (have H2_ := (Option.bind_some _ _).symm.trans H; with_reducible exact H2_) | with_reducible exact H | (rw [hy230]; exact H) | exact H
   have Ny230 := Aside0.mk hy230
   clear hy230
   by_cases c19 : y230.length + l2.length < 140737488355328
   ·rw [if_pos c19] at H
    have LMc19 := Aside0.mk c19
    clear c19
    obtain ⟨y233, hy233⟩ : ∃ y_ : List Int, y_ = (y230 ++ l2) := ⟨_, rfl⟩
    replace H : ((spec_BytesOf.f k t214 2).bind fun t236 => (if y233.length + t236.length < 140737488355328 then (some (y233 ++ t236)) else (none))) = some r := by first | (rw [hy233]; with_reducible exact H) | (have H2_ := (Option.bind_some _ _).symm.trans H; rw [hy233]; with_reducible exact H2_) | (have H2_ := (Option.bind_some _ _).symm.trans H; with_reducible exact H2_) | with_reducible exact H | (rw [hy233]; exact H) | exact H
    have Ny233 := Aside0.mk hy233
    clear hy233
    replace H := Option.bind_eq_some_iff.mp H
    obtain ⟨t236, A200, H⟩ := H
    have A20 := Aside0.mk A200
    clear A200
    by_cases c21 : y233.length + t236.length < 140737488355328
    ·rw [if_pos c21] at H
     have LMc21 := Aside0.mk c21
     clear c21
     obtain ⟨y239, hy239⟩ : ∃ y_ : List Int, y_ = (y233 ++ t236) := ⟨_, rfl⟩
     replace H : (some y239) = some r := by first | (rw [hy239]; with_reducible exact H) | (have H2_ := (Option.bind_some _ _).symm.trans H; rw [hy239]; with_reducible exact H2_) | (have H2_ := (Option.bind_some _ _).symm.trans H; with_reducible exact H2_) | with_reducible exact H | (rw [hy239]; exact H) | exact H
     have Ny239 := Aside0.mk hy239
     clear hy239
     obtain rfl := Option.some.inj H
     go_enter Try.func18, Try.ntmps18
     go_wp2_with (first | ((with_reducible refine gate_callee (f := 27) rfl ?_); refine goesL_ (some 15) rfl rfl Try.func27 (z_0) rfl #[.int .i64 a0, .int .i64 a1, .slice A2 l2.length c2, .bool false] rfl (z_13) ?_; (with_reducible refine (spec_SealOf.calls k a0 a1 _ _ l2 false t214 _ ?side1 ?side2 A5.out).mono ?_); (case side1 => exact z_29); (case side2 => exact HC2.out); rintro e w' ⟨rfl, ⟨nd, rfl⟩⟩; refine ⟨_, rfl, ?_⟩) | ((with_reducible refine gate_dst (N := 26) rfl ?_); refine Kd.R_lit (Kd.int .u8) _ 5 ?hg (N := 26) ?hd (xs := ([((l2.length : Int)) % 256] : List Int)) (inner := [.int .u8 (((l2.length : Int)) % 256)]) (ok := fun _ => True) (okp := fun _ => True) ?hr ?hp (fun _ hk => hk) trivial (Below.refl _ _) (Nat.le_refl _) (z_1) ?_; (case hd => rfl); (case hg => rfl); (case hr => exact z_4); (case hp => exact (Reps.one (show Kd.M (Kd.int .u8) _ _ _ (((l2.length : Int)) % 256) [.int .u8 (((l2.length : Int)) % 256)] from rfl) (Reps.none _ _))); intro v231 w22 ho23 hb hg_ hnew_; clear hg_ hnew_; (first | rw [← Ny230.out] at ho23 | (simp only [Int.reduceToNat] at ho23; rw [← Ny230.out] at ho23)); have n0_ := Aside0.mk (Kd.R_lower ho23 (below_size (z_5))); have n1_ := Aside0.mk (below_step (z_5) hb); clear HB; have HO232 := n0_; have HB := n1_; clear n0_ n1_; clear hb ho23) | ((with_reducible refine gate_builtin (b := .append) (xs := #[.tmp 26, .tmp 27]) rfl ?_); at_builtin; refine Kd.R_append_rows (Kd.int .u8) (w0 := w) w.heap.size rfl (.tmp 26) (.tmp 27) 22 5 (.int .u8 0) 1 rfl Try.underlying22 info5 rfl (z_15) (z_2) v231 y230 l2 _ _ _ (fun _ => True) (fun _ => False) rfl rfl ?aO ?aR (fun _ _ h => h) (fun _ h => h.elim) ?aF ?aB ?aS ?aL ?_; (case aR => exact z_39); (case aB => exact z_24); (case aF => exact z_16); (case aO => exact (by (with_reducible repeat (first | apply Kd.R_alloc | apply Kd.R_drewN | apply Kd.R_drew)); exact HO232.out)); (case aS => exact z_27); (case aL => have := LMc19.out; omega); intro v234 w24 ho hb hg hat; rw [← Ny233.out] at ho; have n0_ := Aside0.mk (hb); have n1_ := Aside0.mk (ho); clear HB; clear HO232; have HB := n0_; have HO235 := n1_; clear n0_ n1_; clear ho hb hg hat) | ((with_reducible refine gate_callee (f := 28) rfl ?_); refine goesL_ (some 30) rfl rfl Try.func28 (z_0) rfl #[.int .i64 t214, .int .i64 2] rfl (z_13) ?_; (with_reducible refine (spec_BytesOf.calls k t214 2 t236 _ A20.out).mono ?_); rintro e w25 ⟨v237, rfl, ho0, hb⟩; refine ⟨_, rfl, ?_⟩; have n0_ := Aside0.mk (Kd.R_elder' (z_42) (Kd.R_base ho0) hb); have n1_ := Aside0.mk (Kd.R_lower (Kd.R_new' ho0 (Kd.R_lt (z_42))) (below_size (z_5))); have n2_ := Aside0.mk (below_step (z_5) hb); clear HO235; clear HB; have HO235 := n0_; have HO238 := n1_; have HB := n2_; clear n0_ n1_ n2_; (try clear hb); (try clear hb2); (try clear hk); (try clear hi); (try clear ho0); obtain ⟨Ao27, co27, eo27⟩ := Kd.R_slice HO238.out; subst eo27) | ((with_reducible refine gate_builtin (b := .append) (xs := #[.tmp 28, .tmp 30]) rfl ?_); at_builtin; refine Kd.R_append_rows (Kd.int .u8) (w0 := w) w.heap.size rfl (.tmp 28) (.tmp 30) 22 5 (.int .u8 0) 1 rfl Try.underlying22 info5 rfl (z_15) (z_2) v234 y233 t236 _ _ _ (fun k_ => some k_ ≠ (.slice Ao27 t236.length co27 : Value).ownBlock) (fun _ => False) rfl rfl ?aO ?aR (fun _ _ h => h) (fun _ h => h.elim) ?aF ?aB ?aS ?aL ?_; (case aR => repeat (first | exact (Kd.R_reads' HO238.out).2.2 | (with_reducible refine Kd.C_alloc ?_ _) | (with_reducible refine Kd.C_drewN ?_ _) | (with_reducible refine Kd.C_drew ?_))); (case aB => exact z_24); (case aF => exact (fun k_ hk => Kd.fresh' (Kd.R_lt (z_43)) k_ hk)); (case aO => exact (by (with_reducible repeat (first | apply Kd.R_alloc | apply Kd.R_drewN | apply Kd.R_drew)); exact Kd.R_mono HO235.out (fun _ hk => hk.2))); (case aS => exact z_27); (case aL => have := LMc21.out; omega); intro v240 w26 ho hb hg hat; rw [← Ny239.out] at ho; have n0_ := Aside0.mk (Kd.R_after (ok := (fun _ => True)) (z_43) hg hat); have n1_ := Aside0.mk (hb); have n2_ := Aside0.mk (ho); clear HO238; clear HB; clear HO235; have HO238 := n0_; have HB := n1_; have HO241 := n2_; clear n0_ n1_ n2_; clear ho hb hg hat))
     go_ret
     exact ⟨_, z_12, by (with_reducible repeat (first | apply Kd.R_alloc | apply Kd.R_drewN | apply Kd.R_drew)); exact Kd.R_mono HO241.out (fun _ hk => trivial), z_5⟩
    ·rw [if_neg c21] at H
     exact absurd H (z_1)
   ·rw [if_neg c19] at H
    exact absurd H (z_1)

/-! ### spec_Sealed: function 7 -/
mutual
def spec_Sealed.j0 : Nat → Int → List Int → List Int → Bool → Option (List Int)
 | 0, _, _, _, _ => none
 | k + 1, x0, x1, x5, x17 => if x17 = true then (some x5) else (spec_Sealed.l0 k x0 x1 x5 0 0)
def spec_Sealed.l0 : Nat → Int → List Int → List Int → Int → Int → Option (List Int)
 | 0, _, _, _, _, _ => none
 | k + 1, x0, x1, x5, x6, x7 => if x7 = 0 then (if 0 ≤ x7 then (if x7 ≤ (mn (wrap64 (x7 + 10)) (x1.length : Int)) then (if (mn (wrap64 (x7 + 10)) (x1.length : Int)) ≤ (x1.length : Int) then ((spec_RecordBytes.f k x0 x6 ((x1.take ((mn (wrap64 (x7 + 10)) (x1.length : Int)) : Int).toNat).drop (x7 : Int).toNat) ((mn (wrap64 (x7 + 10)) (x1.length : Int)) == (x1.length : Int))).bind fun t247 => (if x5.length + t247.length < 140737488355328 then (spec_Sealed.l0 k x0 x1 (x5 ++ t247) (wrap64 (x6 + 1)) (wrap64 (x7 + 10))) else (none))) else (none)) else (none)) else (none)) else (if x7 < (x1.length : Int) then (if 0 ≤ x7 then (if x7 ≤ (mn (wrap64 (x7 + 10)) (x1.length : Int)) then (if (mn (wrap64 (x7 + 10)) (x1.length : Int)) ≤ (x1.length : Int) then ((spec_RecordBytes.f k x0 x6 ((x1.take ((mn (wrap64 (x7 + 10)) (x1.length : Int)) : Int).toNat).drop (x7 : Int).toNat) ((mn (wrap64 (x7 + 10)) (x1.length : Int)) == (x1.length : Int))).bind fun t254 => (if x5.length + t254.length < 140737488355328 then (spec_Sealed.l0 k x0 x1 (x5 ++ t254) (wrap64 (x6 + 1)) (wrap64 (x7 + 10))) else (none))) else (none)) else (none)) else (none)) else (some x5))
end
def spec_Sealed.f (k : Nat) (a0 : Int) (l1 : List Int) : Option (List Int) := (some (([] : List Int) : List Int)).bind fun y242 => ((spec_l1In.f a0 1 65520).bind fun t245 => (if t245 = true then (spec_Sealed.j0 k a0 l1 y242 (decide ((l1.length : Int) > 1000))) else (spec_Sealed.j0 k a0 l1 y242 true)))
theorem spec_Sealed.mono_l : ∀ k, (∀ y0 y1 y2 y3, LeO (spec_Sealed.j0 k y0 y1 y2 y3) (spec_Sealed.j0 (k + 1) y0 y1 y2 y3)) ∧ (∀ y0 y1 y2 y3 y4, LeO (spec_Sealed.l0 k y0 y1 y2 y3 y4) (spec_Sealed.l0 (k + 1) y0 y1 y2 y3 y4))
 | 0 => ⟨fun _ _ _ _ r h => by simp [spec_Sealed.j0] at h, fun _ _ _ _ _ r h => by simp [spec_Sealed.l0] at h⟩
 | k + 1 => by
  obtain ⟨ih0, ih1⟩ := spec_Sealed.mono_l k
  refine ⟨?_, ?_⟩
  ·intro y0 y1 y2 y3
   unfold spec_Sealed.j0
   repeat' first
   | (with_reducible exact ih0 _ _ _ _)
   | (with_reducible exact ih1 _ _ _ _ _)
   | (with_reducible exact spec_RecordBytes.mono _ _ _ _ _)
   | (with_reducible exact LeO.refl _)
   | (with_reducible exact LeO.none _)
   | (with_reducible refine LeO.ite ?_ ?_)
   | (with_reducible refine LeO.bind ?_ (fun _ => ?_))
   | exact ih0 _ _ _ _
   | exact ih1 _ _ _ _ _
   | exact spec_RecordBytes.mono _ _ _ _ _
   | exact LeO.none _
   | refine LeO.ite ?_ ?_
   | refine LeO.bind ?_ (fun _ => ?_)
  ·intro y0 y1 y2 y3 y4
   unfold spec_Sealed.l0
   repeat' first
   | (with_reducible exact ih0 _ _ _ _)
   | (with_reducible exact ih1 _ _ _ _ _)
   | (with_reducible exact spec_RecordBytes.mono _ _ _ _ _)
   | (with_reducible exact LeO.refl _)
   | (with_reducible exact LeO.none _)
   | (with_reducible refine LeO.ite ?_ ?_)
   | (with_reducible refine LeO.bind ?_ (fun _ => ?_))
   | exact ih0 _ _ _ _
   | exact ih1 _ _ _ _ _
   | exact spec_RecordBytes.mono _ _ _ _ _
   | exact LeO.none _
   | refine LeO.ite ?_ ?_
   | refine LeO.bind ?_ (fun _ => ?_)
theorem spec_Sealed.mono : ∀ a0 a1 k, LeO (spec_Sealed.f k a0 a1) (spec_Sealed.f (k + 1) a0 a1) := by
 intro a0 a1 k
 obtain ⟨ih0, ih1⟩ := spec_Sealed.mono_l k
 unfold spec_Sealed.f
 repeat' first
   | (with_reducible exact ih0 _ _ _ _)
   | (with_reducible exact ih1 _ _ _ _ _)
   | (with_reducible exact spec_RecordBytes.mono _ _ _ _ _)
   | (with_reducible exact LeO.refl _)
   | (with_reducible exact LeO.none _)
   | (with_reducible refine LeO.ite ?_ ?_)
   | (with_reducible refine LeO.bind ?_ (fun _ => ?_))
   | exact ih0 _ _ _ _
   | exact ih1 _ _ _ _ _
   | exact spec_RecordBytes.mono _ _ _ _ _
   | exact LeO.none _
   | refine LeO.ite ?_ ?_
   | refine LeO.bind ?_ (fun _ => ?_)
set_option maxHeartbeats 8000000 in
set_option maxRecDepth 100000 in
theorem spec_Sealed.calls (k : Nat) (a0 : Int) (A1 : Option Addr) (c1 : Nat) (l1 : List Int) (r : List Int) (w : World) (hr1 : Kd.C (Kd.int .u8) w A1 l1.length l1) (hc1 : l1.length ≤ c1) (h : spec_Sealed.f k a0 l1 = some r) :
  Calls Try.prog 7 #[.int .i64 a0, .slice A1 l1.length c1] w fun e w' => ∃ v0_ : Value, e = .returned (v0_) ∧ Kd.R (Kd.int .u8) 5 w' w.heap.size (fun _ => True) v0_ r ∧ Below w.heap.size w w' := by
 have HR1 := Aside0.mk hr1
 have HC1 := Aside0.mk hc1
 clear hr1 hc1
 have HB := Aside0.mk (Below.refl w.heap.size w)
 have H : ((some (([] : List Int) : List Int)).bind fun y242 => ((spec_l1In.f a0 1 65520).bind fun t245 => (if t245 = true then (spec_Sealed.j0 k a0 l1 y242 (decide ((l1.length : Int) > 1000))) else (spec_Sealed.j0 k a0 l1 y242 true)))) = some r := h
 clear h
 obtain ⟨y242, hy242⟩ : ∃ y_ : List Int, y_ = (([] : List Int)) := ⟨_, rfl⟩
 replace H : ((spec_l1In.f a0 1 65520).bind fun t245 => (if t245 = true then (spec_Sealed.j0 k a0 l1 y242 (decide ((l1.length : Int) > 1000))) else (spec_Sealed.j0 k a0 l1 y242 true))) = some r := by first | (rw [hy242]; with_reducible exact H) | (have H2_ := (Option.bind_some _ _).symm.trans H; rw [hy242]; with_reducible exact H2_) | (have H2_ := (Option.bind_some _ _).symm.trans H; with_reducible exact H2_) | with_reducible exact H | (rw [hy242]; exact H) | exact H
 have Ny242 := Aside0.mk hy242
 clear hy242
 have HC3 := Aside0.mk H
 clear H
 go_enter Try.func7, Try.ntmps7
 go_upto_region 2 with (first | ((with_reducible refine gate_dst (N := 9) rfl ?_); refine Kd.R_lit (Kd.int .u8) _ 5 ?hg (N := 9) ?hd (xs := ([] : List Int)) (inner := []) (ok := fun _ => True) (okp := fun _ => True) ?hr ?hp (fun _ hk => hk) trivial (Below.refl _ _) (Nat.le_refl _) (z_1) ?_; (case hd => rfl); (case hg => rfl); (case hr => exact z_4); (case hp => exact (Reps.none _ _)); intro v243 w4 ho5 hb hg_ hnew_; clear hg_ hnew_; (first | rw [← Ny242.out] at ho5 | (simp only [Int.reduceToNat] at ho5; rw [← Ny242.out] at ho5)); have n0_ := Aside0.mk (Kd.R_lower ho5 (below_size (z_5))); have n1_ := Aside0.mk (below_step (z_5) hb); clear HB; have HO244 := n0_; have HB := n1_; clear n0_ n1_; clear hb ho5))
 (try simp only [Act.put, List.setIfInBounds_toArray, List.set_cons_zero, List.set_cons_succ])
 go_cut [17] (fun v17 wc => ∃ (kq : Nat) (x17_2 : Bool), v17 = .bool x17_2 ∧ Aside0 (spec_Sealed.j0 kq a0 l1 y242 x17_2 = some r) ∧ Aside0 (kq ≤ k) ∧ Aside0 (Kd.R (Kd.int .u8) 5 wc w.heap.size (fun _ => True) v243 y242) ∧ Aside0 (Below w.heap.size w wc))
 case first =>
  have H := HC3.out
  clear HC3
  replace H := Option.bind_eq_some_iff.mp H
  obtain ⟨t245, A60, H⟩ := H
  have A6 := Aside0.mk A60
  clear A60
  by_cases c7 : t245 = true
  ·subst c7
   rw [if_pos rfl] at H
   have H' := Aside0.mk H
   clear H
   go_wp2_with (first | ((with_reducible refine gate_callee (f := 17) rfl ?_); refine goesL_ (some 11) rfl rfl Try.func17 (z_0) rfl #[.int .i64 a0, .int .i64 1, .int .i64 65520] rfl (z_13) ?_; (with_reducible refine (spec_l1In.calls a0 1 65520 true _ A6.out).mono ?_); rintro e w' ⟨rfl, ⟨nd, rfl⟩⟩; refine ⟨_, rfl, ?_⟩))
   go_meet
   case rel => exact ⟨_, (decide ((l1.length : Int) > 1000)), (z_7), H', ⟨z_8⟩, ⟨z_44⟩, ⟨z_5⟩⟩
  ·replace c7 := Bool.eq_false_iff.mpr c7
   subst c7
   rw [if_neg (show ¬ (false = true) by decide)] at H
   have H' := Aside0.mk H
   clear H
   go_wp2_with (first | ((with_reducible refine gate_callee (f := 17) rfl ?_); refine goesL_ (some 11) rfl rfl Try.func17 (z_0) rfl #[.int .i64 a0, .int .i64 1, .int .i64 65520] rfl (z_13) ?_; (with_reducible refine (spec_l1In.calls a0 1 65520 false _ A6.out).mono ?_); rintro e w' ⟨rfl, ⟨nd, rfl⟩⟩; refine ⟨_, rfl, ?_⟩))
   go_meet
   case rel => exact ⟨_, (true), (z_7), H', ⟨z_8⟩, ⟨z_44⟩, ⟨z_5⟩⟩
 case rest =>
  clear HC3
  try clear c1
  try clear p2
  try clear c7
  obtain ⟨kq, x17_2, rfl, HA, HJ2, HO_5, HB⟩ := hcut
  cases kq with
  | zero => exact absurd HA.out (by simp [spec_Sealed.j0])
  | succ kj2 =>
   have H := HA.out
   clear HA
   simp only [spec_Sealed.j0] at H
   by_cases c8 : x17_2 = true
   ·subst c8
    rw [if_pos rfl] at H
    obtain rfl := Option.some.inj H
    go_wp2
    go_ret
    exact ⟨_, z_12, z_14, z_5⟩
   ·replace c8 := Bool.eq_false_iff.mpr c8
    subst c8
    rw [if_neg (show ¬ (false = true) by decide)] at H
    have H' := Aside0.mk H
    clear H
    go_wp2
    go_loopg [5, 6, 7] kj2 (fun kq v5 v6 v7 w' => ∃ (x5_2 : List Int) (x6_2 : Int) (x7_2 : Int), v6 = .int .i64 x6_2 ∧ v7 = .int .i64 x7_2 ∧ Aside0 (spec_Sealed.l0 kq a0 l1 x5_2 x6_2 x7_2 = some r) ∧ Aside0 (kq ≤ kj2) ∧ Aside0 (Kd.R (Kd.int .u8) 5 w' w.heap.size (fun _ => True) v5 x5_2) ∧ Aside0 (Below w.heap.size w w'))
    case atStart => exact ⟨(y242), (0), (0), (z_7), (z_7), H', ⟨Nat.le_refl _⟩, ⟨z_14⟩, ⟨z_5⟩⟩
    case round =>
     clear H'
     try clear c1
     try clear p2
     try clear c7
     try clear c8
     try clear p2
     obtain ⟨x5_2, x6_2, x7_2, rfl, rfl, HA, HK2, HO_5, HB⟩ := hrel
     cases gk with
     | zero => exact absurd HA.out (by simp [spec_Sealed.l0])
     | succ k2 =>
      have H := HA.out
      clear HA
      simp only [spec_Sealed.l0] at H
      by_cases c9 : x7_2 = 0
      ·rw [if_pos c9] at H
       have c9b0 : (x7_2 == 0) = true := beq_iff_eq.mpr c9
       have c9b1 : (x7_2 != 0) = false := bne_eq_false_iff_eq.mpr c9
       clear c9
       obtain ⟨ji10, hji10⟩ : ∃ j_ : Int, (mn (wrap64 (x7_2 + 10)) (l1.length : Int)) = j_ := ⟨_, rfl⟩
       replace H : (if 0 ≤ x7_2 then (if x7_2 ≤ (ji10) then (if (ji10) ≤ (l1.length : Int) then ((spec_RecordBytes.f k2 a0 x6_2 ((l1.take ((ji10) : Int).toNat).drop (x7_2 : Int).toNat) ((ji10) == (l1.length : Int))).bind fun t247 => (if x5_2.length + t247.length < 140737488355328 then (spec_Sealed.l0 k2 a0 l1 (x5_2 ++ t247) (wrap64 (x6_2 + 1)) (wrap64 (x7_2 + 10))) else (none))) else (none)) else (none)) else (none)) = some r := by first | (rw [hji10] at H; exact H) | (simp only [hji10] at H ⊢; exact H)
       have hji10_ : (if (l1.length : Int) < (wrap64 (x7_2 + 10)) then (l1.length : Int) else (wrap64 (x7_2 + 10))) = ji10 := hji10
       by_cases c11 : 0 ≤ x7_2
       ·rw [if_pos c11] at H
        have c11b0 := eq_true c11
        have c11b1 : decide (0 ≤ x7_2) = true := decide_eq_true c11
        clear c11
        by_cases c12 : x7_2 ≤ (ji10)
        ·rw [if_pos c12] at H
         have c12b0 := eq_true c12
         have c12b1 : decide (x7_2 ≤ (ji10)) = true := decide_eq_true c12
         clear c12
         by_cases c13 : (ji10) ≤ (l1.length : Int)
         ·rw [if_pos c13] at H
          have c13b0 := eq_true c13
          have c13b1 : decide ((ji10) ≤ (l1.length : Int)) = true := decide_eq_true c13
          clear c13
          replace H := Option.bind_eq_some_iff.mp H
          obtain ⟨t247, A140, H⟩ := H
          have A14 := Aside0.mk A140
          clear A140
          by_cases c15 : x5_2.length + t247.length < 140737488355328
          ·rw [if_pos c15] at H
           have LMc15 := Aside0.mk c15
           clear c15
           obtain ⟨y250, hy250⟩ : ∃ y_ : List Int, y_ = (x5_2 ++ t247) := ⟨_, rfl⟩
           replace H : (spec_Sealed.l0 k2 a0 l1 y250 (wrap64 (x6_2 + 1)) (wrap64 (x7_2 + 10))) = some r := by first | (rw [hy250]; with_reducible exact H) | (have H2_ := (Option.bind_some _ _).symm.trans H; rw [hy250]; with_reducible exact H2_) | (have H2_ := (Option.bind_some _ _).symm.trans H; with_reducible exact H2_) | with_reducible exact H | (rw [hy250]; exact H) | exact H
           have Ny250 := Aside0.mk hy250
           clear hy250
           have H' := Aside0.mk H
           clear H
           obtain ⟨i016, hi016, _, hsz16, _⟩ := info_parts info5
           obtain ⟨A16, hcut16, hA16, hC16⟩ := print_mid_of (P := Try.prog) (Value.int .u8) 0 22 5 .i64 .i64 Try.underlying22 hi016 hsz16 A1 c1 l1 x7_2 (ji10) (of_decide_eq_true (z_3)) (z_45) (of_decide_eq_true (z_3)) HC1.out
           have HR246 := Aside0.mk (Kd.C_of_reads (h1 := fun _ => rfl) (hA16 _ (Kd.reads_of_C HR1.out)))
           have HC246 := Aside0.mk hC16
           clear hA16 hC16 hi016 hsz16
           go_wp2_with (first | ((with_reducible refine gate_callee (f := 18) rfl ?_); refine goesL_ (some 45) rfl rfl Try.func18 (z_0) rfl #[.int .i64 a0, .int .i64 x6_2, .slice A16 ((l1.take ((ji10) : Int).toNat).drop (x7_2 : Int).toNat).length (c1 - x7_2.toNat), .bool ((ji10) == (l1.length : Int))] rfl (by (try simp only [List.map_toArray, List.map_cons, List.map_nil]); first | done | (rw [show ((l1.take ((ji10) : Int).toNat).drop (x7_2 : Int).toNat).length = ((ji10).toNat - x7_2.toNat) from (by rw [List.length_drop, List.length_take]; have h_ : ((ji10) : Int) ≤ (l1.length : Int) := of_decide_eq_true (z_3); omega)] <;> rfl) | (simp only [hji10]; rfl) | rfl | (simp only [List.length_drop, List.length_take]; rfl)) ?_; (with_reducible refine (spec_RecordBytes.calls k2 a0 x6_2 _ _ ((l1.take ((ji10) : Int).toNat).drop (x7_2 : Int).toNat) ((ji10) == (l1.length : Int)) t247 _ ?side1 ?side2 A14.out).mono ?_); (case side1 => repeat (first | exact (Kd.C_below HR246.out HB.out) | (with_reducible refine Kd.C_alloc ?_ _) | (with_reducible refine Kd.C_drewN ?_ _) | (with_reducible refine Kd.C_drew ?_))); (case side2 => exact HC246.out); rintro e w17 ⟨v248, rfl, ho0, hb⟩; refine ⟨_, rfl, ?_⟩; have n0_ := Aside0.mk (Kd.R_elder' (z_14) (Kd.R_base ho0) hb); have n1_ := Aside0.mk (Kd.R_lower (Kd.R_new' ho0 (Kd.R_lt (z_14))) (below_size (z_5))); have n2_ := Aside0.mk (below_step (z_5) hb); clear HO_5; clear HB; have HO_5 := n0_; have HO249 := n1_; have HB := n2_; clear n0_ n1_ n2_; (try clear hb); (try clear hb2); (try clear hk); (try clear hi); (try clear ho0); obtain ⟨Ao19, co19, eo19⟩ := Kd.R_slice HO249.out; subst eo19) | ((with_reducible refine gate_builtin (b := .append) (xs := #[.tmp 34, .tmp 45]) rfl ?_); at_builtin; refine Kd.R_append_rows (Kd.int .u8) (w0 := w) w.heap.size rfl (.tmp 34) (.tmp 45) 22 5 (.int .u8 0) 1 rfl Try.underlying22 info5 rfl (z_15) (z_2) u5 x5_2 t247 _ _ _ (fun k_ => some k_ ≠ (.slice Ao19 t247.length co19 : Value).ownBlock) (fun _ => False) rfl rfl ?aO ?aR (fun _ _ h => h) (fun _ h => h.elim) ?aF ?aB ?aS ?aL ?_; (case aR => repeat (first | exact (Kd.R_reads' HO249.out).2.2 | (with_reducible refine Kd.C_alloc ?_ _) | (with_reducible refine Kd.C_drewN ?_ _) | (with_reducible refine Kd.C_drew ?_))); (case aB => exact z_24); (case aF => exact (fun k_ hk => Kd.fresh' (Kd.R_lt (z_46)) k_ hk)); (case aO => exact z_47); (case aS => exact z_27); (case aL => have := LMc15.out; omega); intro v251 w18 ho hb hg hat; rw [← Ny250.out] at ho; have n0_ := Aside0.mk (Kd.R_after (ok := (fun _ => True)) (z_46) hg hat); have n1_ := Aside0.mk (hb); have n2_ := Aside0.mk (ho); clear HO249; clear HB; clear HO_5; have HO249 := n0_; have HB := n1_; have HO252 := n2_; clear n0_ n1_ n2_; clear ho hb hg hat))
           go_roundg k2
           case measure => have := HJ2.out; have := HK2.out; omega
           case rel => exact ⟨(y250), (wrap64 (x6_2 + 1)), (wrap64 (x7_2 + 10)), (z_7), (z_7), H', ⟨z_37⟩, ⟨by (with_reducible repeat (first | apply Kd.R_alloc | apply Kd.R_drewN | apply Kd.R_drew)); exact Kd.R_mono HO252.out (fun _ hk => trivial)⟩, ⟨z_5⟩⟩
          ·rw [if_neg c15] at H
           exact absurd H (z_1)
         ·rw [if_neg c13] at H
          exact absurd H (z_1)
        ·rw [if_neg c12] at H
         exact absurd H (z_1)
       ·rw [if_neg c11] at H
        exact absurd H (z_1)
      ·rw [if_neg c9] at H
       have c9b0 : (x7_2 == 0) = false := beq_eq_false_iff_ne.mpr c9
       have c9b1 : (x7_2 != 0) = true := bne_iff_ne.mpr c9
       by_cases c20 : x7_2 < (l1.length : Int)
       ·rw [if_pos c20] at H
        have c20b0 : decide (x7_2 < (l1.length : Int)) = true := decide_eq_true c20
        clear c20
        obtain ⟨ji21, hji21⟩ : ∃ j_ : Int, (mn (wrap64 (x7_2 + 10)) (l1.length : Int)) = j_ := ⟨_, rfl⟩
        replace H : (if 0 ≤ x7_2 then (if x7_2 ≤ (ji21) then (if (ji21) ≤ (l1.length : Int) then ((spec_RecordBytes.f k2 a0 x6_2 ((l1.take ((ji21) : Int).toNat).drop (x7_2 : Int).toNat) ((ji21) == (l1.length : Int))).bind fun t254 => (if x5_2.length + t254.length < 140737488355328 then (spec_Sealed.l0 k2 a0 l1 (x5_2 ++ t254) (wrap64 (x6_2 + 1)) (wrap64 (x7_2 + 10))) else (none))) else (none)) else (none)) else (none)) = some r := by first | (rw [hji21] at H; exact H) | (simp only [hji21] at H ⊢; exact H)
        have hji21_ : (if (l1.length : Int) < (wrap64 (x7_2 + 10)) then (l1.length : Int) else (wrap64 (x7_2 + 10))) = ji21 := hji21
        by_cases c22 : 0 ≤ x7_2
        ·rw [if_pos c22] at H
         have c22b0 := eq_true c22
         have c22b1 : decide (0 ≤ x7_2) = true := decide_eq_true c22
         clear c22
         by_cases c23 : x7_2 ≤ (ji21)
         ·rw [if_pos c23] at H
          have c23b0 := eq_true c23
          have c23b1 : decide (x7_2 ≤ (ji21)) = true := decide_eq_true c23
          clear c23
          by_cases c24 : (ji21) ≤ (l1.length : Int)
          ·rw [if_pos c24] at H
           have c24b0 := eq_true c24
           have c24b1 : decide ((ji21) ≤ (l1.length : Int)) = true := decide_eq_true c24
           clear c24
           replace H := Option.bind_eq_some_iff.mp H
           obtain ⟨t254, A250, H⟩ := H
           have A25 := Aside0.mk A250
           clear A250
           by_cases c26 : x5_2.length + t254.length < 140737488355328
           ·rw [if_pos c26] at H
            have LMc26 := Aside0.mk c26
            clear c26
            obtain ⟨y257, hy257⟩ : ∃ y_ : List Int, y_ = (x5_2 ++ t254) := ⟨_, rfl⟩
            replace H : (spec_Sealed.l0 k2 a0 l1 y257 (wrap64 (x6_2 + 1)) (wrap64 (x7_2 + 10))) = some r := by first | (rw [hy257]; with_reducible exact H) | (have H2_ := (Option.bind_some _ _).symm.trans H; rw [hy257]; with_reducible exact H2_) | (have H2_ := (Option.bind_some _ _).symm.trans H; with_reducible exact H2_) | with_reducible exact H | (rw [hy257]; exact H) | exact H
            have Ny257 := Aside0.mk hy257
            clear hy257
            have H' := Aside0.mk H
            clear H
            obtain ⟨i027, hi027, _, hsz27, _⟩ := info_parts info5
            obtain ⟨A27, hcut27, hA27, hC27⟩ := print_mid_of (P := Try.prog) (Value.int .u8) 0 22 5 .i64 .i64 Try.underlying22 hi027 hsz27 A1 c1 l1 x7_2 (ji21) (of_decide_eq_true (z_3)) (z_45) (of_decide_eq_true (z_3)) HC1.out
            have HR253 := Aside0.mk (Kd.C_of_reads (h1 := fun _ => rfl) (hA27 _ (Kd.reads_of_C HR1.out)))
            have HC253 := Aside0.mk hC27
            clear hA27 hC27 hi027 hsz27
            go_wp2_with (first | ((with_reducible refine gate_callee (f := 18) rfl ?_); refine goesL_ (some 45) rfl rfl Try.func18 (z_0) rfl #[.int .i64 a0, .int .i64 x6_2, .slice A27 ((l1.take ((ji21) : Int).toNat).drop (x7_2 : Int).toNat).length (c1 - x7_2.toNat), .bool ((ji21) == (l1.length : Int))] rfl (by (try simp only [List.map_toArray, List.map_cons, List.map_nil]); first | done | (rw [show ((l1.take ((ji21) : Int).toNat).drop (x7_2 : Int).toNat).length = ((ji21).toNat - x7_2.toNat) from (by rw [List.length_drop, List.length_take]; have h_ : ((ji21) : Int) ≤ (l1.length : Int) := of_decide_eq_true (z_3); omega)] <;> rfl) | (simp only [hji21]; rfl) | rfl | (simp only [List.length_drop, List.length_take]; rfl)) ?_; (with_reducible refine (spec_RecordBytes.calls k2 a0 x6_2 _ _ ((l1.take ((ji21) : Int).toNat).drop (x7_2 : Int).toNat) ((ji21) == (l1.length : Int)) t254 _ ?side1 ?side2 A25.out).mono ?_); (case side1 => repeat (first | exact (Kd.C_below HR253.out HB.out) | (with_reducible refine Kd.C_alloc ?_ _) | (with_reducible refine Kd.C_drewN ?_ _) | (with_reducible refine Kd.C_drew ?_))); (case side2 => exact HC253.out); rintro e w28 ⟨v255, rfl, ho0, hb⟩; refine ⟨_, rfl, ?_⟩; have n0_ := Aside0.mk (Kd.R_elder' (z_14) (Kd.R_base ho0) hb); have n1_ := Aside0.mk (Kd.R_lower (Kd.R_new' ho0 (Kd.R_lt (z_14))) (below_size (z_5))); have n2_ := Aside0.mk (below_step (z_5) hb); clear HO_5; clear HB; have HO_5 := n0_; have HO256 := n1_; have HB := n2_; clear n0_ n1_ n2_; (try clear hb); (try clear hb2); (try clear hk); (try clear hi); (try clear ho0); obtain ⟨Ao30, co30, eo30⟩ := Kd.R_slice HO256.out; subst eo30) | ((with_reducible refine gate_builtin (b := .append) (xs := #[.tmp 34, .tmp 45]) rfl ?_); at_builtin; refine Kd.R_append_rows (Kd.int .u8) (w0 := w) w.heap.size rfl (.tmp 34) (.tmp 45) 22 5 (.int .u8 0) 1 rfl Try.underlying22 info5 rfl (z_15) (z_2) u5 x5_2 t254 _ _ _ (fun k_ => some k_ ≠ (.slice Ao30 t254.length co30 : Value).ownBlock) (fun _ => False) rfl rfl ?aO ?aR (fun _ _ h => h) (fun _ h => h.elim) ?aF ?aB ?aS ?aL ?_; (case aR => repeat (first | exact (Kd.R_reads' HO256.out).2.2 | (with_reducible refine Kd.C_alloc ?_ _) | (with_reducible refine Kd.C_drewN ?_ _) | (with_reducible refine Kd.C_drew ?_))); (case aB => exact z_24); (case aF => exact (fun k_ hk => Kd.fresh' (Kd.R_lt (z_48)) k_ hk)); (case aO => exact z_47); (case aS => exact z_27); (case aL => have := LMc26.out; omega); intro v258 w29 ho hb hg hat; rw [← Ny257.out] at ho; have n0_ := Aside0.mk (Kd.R_after (ok := (fun _ => True)) (z_48) hg hat); have n1_ := Aside0.mk (hb); have n2_ := Aside0.mk (ho); clear HO256; clear HB; clear HO_5; have HO256 := n0_; have HB := n1_; have HO259 := n2_; clear n0_ n1_ n2_; clear ho hb hg hat))
            go_roundg k2
            case measure => have := HJ2.out; have := HK2.out; omega
            case rel => exact ⟨(y257), (wrap64 (x6_2 + 1)), (wrap64 (x7_2 + 10)), (z_7), (z_7), H', ⟨z_37⟩, ⟨by (with_reducible repeat (first | apply Kd.R_alloc | apply Kd.R_drewN | apply Kd.R_drew)); exact Kd.R_mono HO259.out (fun _ hk => trivial)⟩, ⟨z_5⟩⟩
           ·rw [if_neg c26] at H
            exact absurd H (z_1)
          ·rw [if_neg c24] at H
           exact absurd H (z_1)
         ·rw [if_neg c23] at H
          exact absurd H (z_1)
        ·rw [if_neg c22] at H
         exact absurd H (z_1)
       ·rw [if_neg c20] at H
        have c20b0 : decide (x7_2 < (l1.length : Int)) = false := decide_eq_false c20
        clear c20
        obtain rfl := Option.some.inj H
        go_wp2
        go_ret
        exact ⟨_, z_12, z_14, z_5⟩

/-! ### impl_clone_byte: function 20 -/
def impl_clone_byte.f (l0 : List Int) : Option (List Int) := if (l0.length : Int) = 0 then (some ([] : List Int)) else ((some (([] : List Int) : List Int)).bind fun y260 => (if y260.length + l0.length < 140737488355328 then (some (y260 ++ l0)) else (none)))
set_option maxHeartbeats 8000000 in
set_option maxRecDepth 100000 in
theorem impl_clone_byte.calls (A0 : Option Addr) (c0 : Nat) (l0 : List Int) (r : List Int) (w : World) (hr0 : Kd.C (Kd.int .u8) w A0 l0.length l0) (hc0 : l0.length ≤ c0) (h : impl_clone_byte.f l0 = some r) :
  Calls Try.prog 20 #[.slice A0 l0.length c0] w fun e w' => ∃ v0_ : Value, e = .returned (v0_) ∧ Kd.R (Kd.int .u8) 5 w' w.heap.size (fun _ => True) v0_ r ∧ Below w.heap.size w w' := by
 have HR0 := Aside0.mk hr0
 have HC0 := Aside0.mk hc0
 clear hr0 hc0
 have HB := Aside0.mk (Below.refl w.heap.size w)
 have H : (if (l0.length : Int) = 0 then (some ([] : List Int)) else ((some (([] : List Int) : List Int)).bind fun y260 => (if y260.length + l0.length < 140737488355328 then (some (y260 ++ l0)) else (none)))) = some r := h
 clear h
 by_cases c2 : (l0.length : Int) = 0
 ·rw [if_pos c2] at H
  have c2b0 : ((l0.length : Int) == 0) = true := beq_iff_eq.mpr c2
  have c2b1 : ((l0.length : Int) != 0) = false := bne_eq_false_iff_eq.mpr c2
  clear c2
  obtain rfl := Option.some.inj H
  go_enter Try.func20, Try.ntmps20
  go_wp2
  go_ret
  exact ⟨_, z_12, z_30, z_5⟩
 ·rw [if_neg c2] at H
  have c2b0 : ((l0.length : Int) == 0) = false := beq_eq_false_iff_ne.mpr c2
  have c2b1 : ((l0.length : Int) != 0) = true := bne_iff_ne.mpr c2
  have c2b2 : ¬ (l0 = []) := fun h_ => c2 (by rw [h_]; rfl)
  obtain ⟨y260, hy260⟩ : ∃ y_ : List Int, y_ = (([] : List Int)) := ⟨_, rfl⟩
  replace H : (if y260.length + l0.length < 140737488355328 then (some (y260 ++ l0)) else (none)) = some r := by first | (rw [hy260]; with_reducible exact H) | (have H2_ := (Option.bind_some _ _).symm.trans H; rw [hy260]; with_reducible exact H2_) | (have H2_ := (Option.bind_some _ _).symm.trans H; with_reducible exact H2_) | with_reducible exact H | (rw [hy260]; exact H) | exact H
  have Ny260 := Aside0.mk hy260
  clear hy260
  by_cases c3 : y260.length + l0.length < 140737488355328
  ·rw [if_pos c3] at H
   have LMc3 := Aside0.mk c3
   clear c3
   obtain ⟨y263, hy263⟩ : ∃ y_ : List Int, y_ = (y260 ++ l0) := ⟨_, rfl⟩
   replace H : (some y263) = some r := by first | (rw [hy263]; with_reducible exact H) | (have H2_ := (Option.bind_some _ _).symm.trans H; rw [hy263]; with_reducible exact H2_) | (have H2_ := (Option.bind_some _ _).symm.trans H; with_reducible exact H2_) | with_reducible exact H | (rw [hy263]; exact H) | exact H
   have Ny263 := Aside0.mk hy263
   clear hy263
   obtain rfl := Option.some.inj H
   have HO262 := Aside0.mk (show Kd.R (Kd.int .u8) 5 w w.heap.size (fun _ => True) (.slice none 0 0) y260 by rw [Ny260.out]; exact Kd.R_nil _ _ _ _ _)
   have HL63_ := Aside0.mk (show y263.length ≤ 9223372036854775807 by rw [Ny263.out, List.length_append]; have := LMc3.out; omega)
   go_enter Try.func20, Try.ntmps20
   go_wp2_with (first | ((with_reducible refine gate_builtin (b := .append) (xs := #[.const (.slice none 0 0), .tmp 6]) rfl ?_); at_builtin; refine Kd.R_append_rows (Kd.int .u8) (w0 := w) w.heap.size rfl (.const (.slice none 0 0)) (.tmp 6) 22 5 (.int .u8 0) 1 rfl Try.underlying22 info5 rfl (z_15) (z_2) (.slice none 0 0) y260 l0 _ _ _ (fun _ => True) (fun _ => False) rfl rfl ?aO ?aR (fun _ _ h => h) (fun _ h => h.elim) ?aF ?aB ?aS ?aL ?_; (case aR => repeat (first | exact (Kd.C_below HR0.out HB.out) | (with_reducible refine Kd.C_alloc ?_ _) | (with_reducible refine Kd.C_drewN ?_ _) | (with_reducible refine Kd.C_drew ?_))); (case aB => exact z_24); (case aF => exact z_16); (case aO => exact (by (with_reducible repeat (first | apply Kd.R_alloc | apply Kd.R_drewN | apply Kd.R_drew)); exact HO262.out)); (case aS => exact z_27); (case aL => have := LMc3.out; omega); intro v264 w6 ho hb hg hat; rw [← Ny263.out] at ho; have n0_ := Aside0.mk (hb); have n1_ := Aside0.mk (ho); clear HB; clear HO262; have HB := n0_; have HO265 := n1_; clear n0_ n1_; clear ho hb hg hat; obtain ⟨Ax_, cx_, ex_⟩ := Kd.R_slice HO265.out; subst ex_; have HLx_ := Aside0.mk (Kd.R_le HO265.out)) | (go_at_call 30; (with_reducible refine (slices_Clip_30.calls _ _ _ _ HLx_.out HL63_.out).mono ?_); rintro e w' ⟨rfl, hw_⟩; subst hw_))
   go_ret
   exact ⟨_, z_12, by (with_reducible repeat (first | apply Kd.R_alloc | apply Kd.R_drewN | apply Kd.R_drew)); exact Kd.R_clip HO265.out, z_5⟩
  ·rw [if_neg c3] at H
   exact absurd H (z_1)

end Go.Proofs.Ytenphmeikbjimaa.GFnMixed
