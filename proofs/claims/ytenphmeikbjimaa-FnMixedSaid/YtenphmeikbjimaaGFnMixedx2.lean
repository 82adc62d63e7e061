/- What the Go functions that FnMixed reaches come to, walked step by step; there is no condition beyond those each statement names. -/
import Derived.Test.YtenphmeikbjimaaGFnMixedx0
import Derived.Test.YtenphmeikbjimaaGFnMixedx1
namespace Go.Proofs.Ytenphmeikbjimaa.GFnMixed
open Go.RowKit Go.Proofs.YtenphmeikbjimaaVMixed.PrintWords Go.Proofs.YtenphmeikbjimaaVMixed.PrintLast Go.Proofs.YtenphmeikbjimaaVMixed.PrintMore
attribute [local go_sem] max2_int min2_int max_two min_two max_three min_three max_four min_four   -- for this text's walks alone
set_option linter.unusedVariables false
set_option linter.unusedSimpArgs false

/-! ### impl_SealOf: function 23 -/
def impl_SealOf.l0 : Nat → Int → Int → List Int → Int → Int → Option (Int)
 | 0, _, _, _, _, _ => none
 | k + 1, x0, x9, x25, x26, x27 => if x27 < x26 then (if 0 ≤ x27 then (if x27 < (x25.length : Int) then (impl_SealOf.l0 k x0 (Int.tmod (wrap64 ((wrap64 ((wrap64 (x9 * x0)) + (wrap64 (rd x25 x27)))) + 1)) 65521) x25 x26 (wrap64 (x27 + 1))) else (none)) else (none)) else (some (Int.tmod (wrap64 (x9 * x0)) 65521))
def impl_SealOf.f (k : Nat) (a0 : Int) (a1 : Int) (l2 : List Int) (a3 : Bool) : Option (Int) := (impl_sealOk.f a0 a1 l2).bind fun t147 => (if t147 = true then ((some (([] : List Int) : List Int)).bind fun y148 => (if y148.length + l2.length < 140737488355328 then ((some (y148 ++ l2 : List Int)).bind fun y151 => ((impl_bit.f a3 1).bind fun t154 => (if y151.length < 140737488355328 then ((some (y151 ++ [(t154) % 256] : List Int)).bind fun y155 => (impl_SealOf.l0 k a0 (wrap64 (a1 + 1)) y155 (y155.length : Int) 0)) else (none)))) else (none))) else (some (-1)))
theorem impl_SealOf.mono_l : ∀ k, (∀ y0 y1 y2 y3 y4, LeO (impl_SealOf.l0 k y0 y1 y2 y3 y4) (impl_SealOf.l0 (k + 1) y0 y1 y2 y3 y4))
 | 0 => fun _ _ _ _ _ r h => by simp [impl_SealOf.l0] at h
 | k + 1 => by
  have ih0 := impl_SealOf.mono_l k
  ·intro y0 y1 y2 y3 y4
   unfold impl_SealOf.l0
   repeat' first
   | (with_reducible exact ih0 _ _ _ _ _)
   | (with_reducible exact LeO.refl _)
   | (with_reducible exact LeO.none _)
   | (with_reducible refine LeO.ite ?_ ?_)
   | (with_reducible refine LeO.bind ?_ (fun _ => ?_))
   | exact ih0 _ _ _ _ _
   | exact LeO.none _
   | refine LeO.ite ?_ ?_
   | refine LeO.bind ?_ (fun _ => ?_)
theorem impl_SealOf.mono : ∀ a0 a1 a2 a3 k, LeO (impl_SealOf.f k a0 a1 a2 a3) (impl_SealOf.f (k + 1) a0 a1 a2 a3) := by
 intro a0 a1 a2 a3 k
 have ih0 := impl_SealOf.mono_l k
 unfold impl_SealOf.f
 repeat' first
   | (with_reducible exact ih0 _ _ _ _ _)
   | (with_reducible exact LeO.refl _)
   | (with_reducible exact LeO.none _)
   | (with_reducible refine LeO.ite ?_ ?_)
   | (with_reducible refine LeO.bind ?_ (fun _ => ?_))
   | exact ih0 _ _ _ _ _
   | exact LeO.none _
   | refine LeO.ite ?_ ?_
   | refine LeO.bind ?_ (fun _ => ?_)
set_option maxHeartbeats 8000000 in
set_option maxRecDepth 100000 in
theorem impl_SealOf.calls (k : Nat) (a0 : Int) (a1 : Int) (A2 : Option Addr) (c2 : Nat) (l2 : List Int) (a3 : Bool) (r : Int) (w : World) (hr2 : Kd.C (Kd.int .u8) w A2 l2.length l2) (hc2 : l2.length ≤ c2) (h : impl_SealOf.f k a0 a1 l2 a3 = some r) :
  Calls Try.prog 23 #[.int .i64 a0, .int .i64 a1, .slice A2 l2.length c2, .bool a3] w fun e w' => e = .returned (.int .i64 r) ∧ Below w.heap.size w w' := by
 have HR2 := Aside0.mk hr2
 have HC2 := Aside0.mk hc2
 clear hr2 hc2
 have HB := Aside0.mk (Below.refl w.heap.size w)
 have H : ((impl_sealOk.f a0 a1 l2).bind fun t147 => (if t147 = true then ((some (([] : List Int) : List Int)).bind fun y148 => (if y148.length + l2.length < 140737488355328 then ((some (y148 ++ l2 : List Int)).bind fun y151 => ((impl_bit.f a3 1).bind fun t154 => (if y151.length < 140737488355328 then ((some (y151 ++ [(t154) % 256] : List Int)).bind fun y155 => (impl_SealOf.l0 k a0 (wrap64 (a1 + 1)) y155 (y155.length : Int) 0)) else (none)))) else (none))) else (some (-1)))) = some r := h
 clear h
 replace H := Option.bind_eq_some_iff.mp H
 obtain ⟨t147, A50, H⟩ := H
 have A5 := Aside0.mk A50
 clear A50
 by_cases c6 : t147 = true
 ·subst c6
  rw [if_pos rfl] at H
  obtain ⟨y148, hy148⟩ : ∃ y_ : List Int, y_ = (([] : List Int)) := ⟨_, rfl⟩
  replace H : (if y148.length + l2.length < 140737488355328 then ((some (y148 ++ l2 : List Int)).bind fun y151 => ((impl_bit.f a3 1).bind fun t154 => (if y151.length < 140737488355328 then ((some (y151 ++ [(t154) % 256] : List Int)).bind fun y155 => (impl_SealOf.l0 k a0 (wrap64 (a1 + 1)) y155 (y155.length : Int) 0)) else (none)))) else (none)) = some r := by first | (rw [hy148]; with_reducible exact H) | (have H2_ := (Option.bind_some _ _).symm.trans H; rw [hy148]; with_reducible exact H2_) | (have H2_ := (Option.bind_some _ _).symm.trans H; with_reducible exact H2_) | with_reducible exact H | (rw [hy148]; exact H) | exact H
  have Ny148 := Aside0.mk hy148
  clear hy148
  by_cases c7 : y148.length + l2.length < 140737488355328
  ·rw [if_pos c7] at H
   have LMc7 := Aside0.mk c7
   clear c7
   obtain ⟨y151, hy151⟩ : ∃ y_ : List Int, y_ = (y148 ++ l2) := ⟨_, rfl⟩
   replace H : ((impl_bit.f a3 1).bind fun t154 => (if y151.length < 140737488355328 then ((some (y151 ++ [(t154) % 256] : List Int)).bind fun y155 => (impl_SealOf.l0 k a0 (wrap64 (a1 + 1)) y155 (y155.length : Int) 0)) else (none))) = some r := by first | (rw [hy151]; with_reducible exact H) | (have H2_ := (Option.bind_some _ _).symm.trans H; rw [hy151]; with_reducible exact H2_) | (have H2_ := (Option.bind_some _ _).symm.trans H; with_reducible exact H2_) | with_reducible exact H | (rw [hy151]; exact H) | exact H
   have Ny151 := Aside0.mk hy151
   clear hy151
   replace H := Option.bind_eq_some_iff.mp H
   obtain ⟨t154, A80, H⟩ := H
   have A8 := Aside0.mk A80
   clear A80
   by_cases c9 : y151.length < 140737488355328
   ·rw [if_pos c9] at H
    have LMc9 := Aside0.mk c9
    clear c9
    obtain ⟨y155, hy155⟩ : ∃ y_ : List Int, y_ = (y151 ++ [(t154) % 256]) := ⟨_, rfl⟩
    replace H : (impl_SealOf.l0 k a0 (wrap64 (a1 + 1)) y155 (y155.length : Int) 0) = some r := by first | (rw [hy155]; with_reducible exact H) | (have H2_ := (Option.bind_some _ _).symm.trans H; rw [hy155]; with_reducible exact H2_) | (have H2_ := (Option.bind_some _ _).symm.trans H; with_reducible exact H2_) | with_reducible exact H | (rw [hy155]; exact H) | exact H
    have Ny155 := Aside0.mk hy155
    clear hy155
    have H' := Aside0.mk H
    clear H
    have Hy_ := Aside0.mk (show y151 = l2 by rw [Ny151.out, Ny148.out]; rfl)
    have HL63_ := Aside0.mk (show l2.length ≤ 9223372036854775807 by have := LMc7.out; omega)
    go_enter Try.func23, Try.ntmps23
    go_wp2_with (first | ((with_reducible refine gate_callee (f := 14) rfl ?_); refine goesL_ (some 15) rfl rfl Try.func14 (z_0) rfl #[.int .i64 a0, .int .i64 a1, .slice A2 l2.length c2] rfl (z_13) ?_; (with_reducible refine (impl_sealOk.calls a0 a1 _ _ l2 true _ ?side1 ?side2 A5.out).mono ?_); (case side1 => exact z_29); (case side2 => exact HC2.out); rintro e w' ⟨rfl, ⟨nd, rfl⟩⟩; refine ⟨_, rfl, ?_⟩) | ((with_reducible refine gate_callee (f := 24) rfl ?_); refine goesL_ (some 22) rfl rfl Try.func24 (z_0) rfl #[.bool a3, .int .i64 1] rfl (z_13) ?_; (with_reducible refine (impl_bit.calls a3 1 t154 _ A8.out).mono ?_); rintro e w' ⟨rfl, ⟨nd, rfl⟩⟩; refine ⟨_, rfl, ?_⟩) | (go_at_call 30; (with_reducible refine (slices_Clip_30.calls _ _ _ _ HC2.out HL63_.out).mono ?_); rintro e w' ⟨rfl, hw_⟩; subst hw_) | ((with_reducible refine gate_builtin (b := .append) (xs := #[.tmp 20, .tmp 24]) rfl ?_); at_builtin; refine Kd.R_append_read (Kd.int .u8) (w0 := w) w.heap.size rfl (.tmp 20) (.tmp 24) 22 5 (.int .u8 0) 1 rfl Try.underlying22 info5 rfl (z_15) (z_2) A2 l2.length y151 ((t154) % 256) [.int .u8 ((t154) % 256)] (fun _ => True) (fun _ => False) rfl rfl ?aP (fun _ hk => hk.elim) ?aF ?aC (fun _ _ h_ => h_) ?aB ?aS ?aL ?_; (case aP => exact rfl); (case aB => exact z_24); (case aF => exact z_16); (case aC => rw [Hy_.out]; repeat (first | exact (Kd.C_below HR2.out HB.out) | (with_reducible refine Kd.C_alloc ?_ _) | (with_reducible refine Kd.C_drewN ?_ _) | (with_reducible refine Kd.C_drew ?_))); (case aS => exact z_27); (case aL => have := LMc9.out; omega); intro v156 w13 ho hb; rw [← Ny155.out] at ho; have n0_ := Aside0.mk (hb); have n1_ := Aside0.mk (ho); clear HB; have HB := n0_; have HO157 := n1_; clear n0_ n1_; clear ho hb; obtain ⟨Ao14, co14, eo14⟩ := Kd.R_slice HO157.out; subst eo14))
    go_loopg [9, 27] k (fun kq v9 v27 w' => ∃ (x9_1 : Int) (x27_1 : Int), v9 = .int .i64 x9_1 ∧ v27 = .int .i64 x27_1 ∧ Aside0 (impl_SealOf.l0 kq a0 x9_1 y155 (y155.length : Int) x27_1 = some r) ∧ Aside0 (kq ≤ k) ∧ Aside0 (Kd.R (Kd.int .u8) 5 w' w.heap.size (fun _ => True) (.slice Ao14 y155.length co14) y155) ∧ Aside0 (Below w.heap.size w w'))
    case atStart => exact ⟨(wrap64 (a1 + 1)), (0), (z_7), (z_7), H', ⟨Nat.le_refl _⟩, ⟨by (with_reducible repeat (first | apply Kd.R_alloc | apply Kd.R_drewN | apply Kd.R_drew)); exact HO157.out⟩, ⟨z_5⟩⟩
    case round =>
     clear H'
     try clear c1
     try clear c2
     try clear p2
     try clear c6
     try clear p6
     try clear c7
     try clear c9
     try clear c14
     obtain ⟨x9_1, x27_1, rfl, rfl, HA, HK1, HO_25, HB⟩ := hrel
     cases gk with
     | zero => exact absurd HA.out (by simp [impl_SealOf.l0])
     | succ k1 =>
      have H := HA.out
      clear HA
      simp only [impl_SealOf.l0] at H
      by_cases c15 : x27_1 < (y155.length : Int)
      ·rw [if_pos c15] at H
       have c15b0 : decide (x27_1 < (y155.length : Int)) = true := decide_eq_true c15
       clear c15
       by_cases c16 : 0 ≤ x27_1
       ·rw [if_pos c16] at H
        have c16b0 : decide (0 ≤ x27_1) = true := decide_eq_true c16
        clear c16
        by_cases c17 : x27_1 < (y155.length : Int)
        ·rw [if_pos c17] at H
         have c17b0 : decide (x27_1 < (y155.length : Int)) = true := decide_eq_true c17
         clear c17
         have H' := Aside0.mk H
         clear H
         have p158 : 0 ≤ (x27_1 : Int) := of_decide_eq_true (z_3)
         have q158 : x27_1 < (y155.length : Int) := of_decide_eq_true (z_3)
         obtain ⟨ad158, e158, hx158_0⟩ := Kd.at_int (Kd.R_reads' HO_25.out).2.2 x27_1 p158 q158
         cases e158
         replace p158 := eq_true p158
         replace q158 := eq_true q158
         go_wp2
         go_roundg k1
         case measure => have := HK1.out; omega
         case rel => exact ⟨(Int.tmod (wrap64 ((wrap64 ((wrap64 (x9_1 * a0)) + (wrap64 (rd y155 x27_1)))) + 1)) 65521), (wrap64 (x27_1 + 1)), (z_7), (z_7), H', ⟨z_19⟩, ⟨by (with_reducible repeat (first | apply Kd.R_alloc | apply Kd.R_drewN | apply Kd.R_drew)); exact HO_25.out⟩, ⟨z_5⟩⟩
        ·rw [if_neg c17] at H
         exact absurd H (z_1)
       ·rw [if_neg c16] at H
        exact absurd H (z_1)
      ·rw [if_neg c15] at H
       have c15b0 : decide (x27_1 < (y155.length : Int)) = false := decide_eq_false c15
       clear c15
       obtain rfl := Option.some.inj H
       go_wp2
       go_ret
       exact ⟨z_12, z_5⟩
   ·rw [if_neg c9] at H
    exact absurd H (z_1)
  ·rw [if_neg c7] at H
   exact absurd H (z_1)
 ·replace c6 := Bool.eq_false_iff.mpr c6
  subst c6
  rw [if_neg (show ¬ (false = true) by decide)] at H
  obtain rfl := Option.some.inj H
  go_enter Try.func23, Try.ntmps23
  go_wp2_with (first | ((with_reducible refine gate_callee (f := 14) rfl ?_); refine goesL_ (some 15) rfl rfl Try.func14 (z_0) rfl #[.int .i64 a0, .int .i64 a1, .slice A2 l2.length c2] rfl (z_13) ?_; (with_reducible refine (impl_sealOk.calls a0 a1 _ _ l2 false _ ?side1 ?side2 A5.out).mono ?_); (case side1 => exact z_29); (case side2 => exact HC2.out); rintro e w' ⟨rfl, ⟨nd, rfl⟩⟩; refine ⟨_, rfl, ?_⟩))
  go_ret
  exact ⟨z_12, z_5⟩

/-! ### impl_bytesOf: function 25 -/
def impl_bytesOf.l0 : Nat → Int → List Int → Int → Option (List Int)
 | 0, _, _, _ => none
 | k + 1, x0, x5, x6 => if x6 ≥ 0 then (if 0 ≤ x6 then (if x6 < (x5.length : Int) then (impl_bytesOf.l0 k (x0 / 256) (x5.set (x6 : Int).toNat ((x0) % 256)) (wrap64 (x6 - 1))) else (none)) else (none)) else (some x5)
def impl_bytesOf.f (k : Nat) (a0 : Int) (a1 : Int) : Option (List Int) := if 0 ≤ a1 then (if (a1 : Int).toNat ≤ 281474976710656 then (impl_bytesOf.l0 k a0 (List.replicate (a1 : Int).toNat 0) (wrap64 (a1 - 1))) else (none)) else (none)
theorem impl_bytesOf.mono_l : ∀ k, (∀ y0 y1 y2, LeO (impl_bytesOf.l0 k y0 y1 y2) (impl_bytesOf.l0 (k + 1) y0 y1 y2))
 | 0 => fun _ _ _ r h => by simp [impl_bytesOf.l0] at h
 | k + 1 => by
  have ih0 := impl_bytesOf.mono_l k
  ·intro y0 y1 y2
   unfold impl_bytesOf.l0
   repeat' first
   | (with_reducible exact ih0 _ _ _)
   | (with_reducible exact LeO.refl _)
   | (with_reducible exact LeO.none _)
   | (with_reducible refine LeO.ite ?_ ?_)
   | (with_reducible refine LeO.bind ?_ (fun _ => ?_))
   | exact ih0 _ _ _
   | exact LeO.none _
   | refine LeO.ite ?_ ?_
   | refine LeO.bind ?_ (fun _ => ?_)
theorem impl_bytesOf.mono : ∀ a0 a1 k, LeO (impl_bytesOf.f k a0 a1) (impl_bytesOf.f (k + 1) a0 a1) := by
 intro a0 a1 k
 have ih0 := impl_bytesOf.mono_l k
 unfold impl_bytesOf.f
 repeat' first
   | (with_reducible exact ih0 _ _ _)
   | (with_reducible exact LeO.refl _)
   | (with_reducible exact LeO.none _)
   | (with_reducible refine LeO.ite ?_ ?_)
   | (with_reducible refine LeO.bind ?_ (fun _ => ?_))
   | exact ih0 _ _ _
   | exact LeO.none _
   | refine LeO.ite ?_ ?_
   | refine LeO.bind ?_ (fun _ => ?_)
set_option maxHeartbeats 8000000 in
set_option maxRecDepth 100000 in
theorem impl_bytesOf.calls (k : Nat) (a0 : Int) (a1 : Int) (r : List Int) (w : World) (h : impl_bytesOf.f k a0 a1 = some r) :
  Calls Try.prog 25 #[.int .i64 a0, .int .i64 a1] w fun e w' => ∃ v0_ : Value, e = .returned (v0_) ∧ Kd.R (Kd.int .u8) 5 w' w.heap.size (fun _ => True) v0_ r ∧ Below w.heap.size w w' := by
 have HB := Aside0.mk (Below.refl w.heap.size w)
 have H : (if 0 ≤ a1 then (if (a1 : Int).toNat ≤ 281474976710656 then (impl_bytesOf.l0 k a0 (List.replicate (a1 : Int).toNat 0) (wrap64 (a1 - 1))) else (none)) else (none)) = some r := h
 clear h
 by_cases c3 : 0 ≤ a1
 ·rw [if_pos c3] at H
  have c3b0 := eq_true c3
  have c3b1 : decide (0 ≤ a1) = true := decide_eq_true c3
  clear c3
  by_cases c4 : (a1 : Int).toNat ≤ 281474976710656
  ·rw [if_pos c4] at H
   have c4b0 := eq_true c4
   have c4b1 : decide ((a1 : Int).toNat ≤ 281474976710656) = true := decide_eq_true c4
   clear c4
   obtain ⟨y159, hy159⟩ : ∃ y_ : List Int, y_ = (List.replicate (a1 : Int).toNat 0) := ⟨_, rfl⟩
   replace H : (impl_bytesOf.l0 k a0 y159 (wrap64 (a1 - 1))) = some r := by first | (rw [hy159]; with_reducible exact H) | (have H2_ := (Option.bind_some _ _).symm.trans H; rw [hy159]; with_reducible exact H2_) | (have H2_ := (Option.bind_some _ _).symm.trans H; with_reducible exact H2_) | with_reducible exact H | (rw [hy159]; exact H) | exact H
   have Ny159 := Aside0.mk hy159
   clear hy159
   have H' := Aside0.mk H
   clear H
   go_enter Try.func25, Try.ntmps25
   go_wp2_with (first | ((with_reducible refine gate_dst (N := 8) rfl ?_); refine Kd.R_make (Kd.int .u8) _ 5 rfl (N := 8) rfl 22 _ _ rfl a1 rfl rfl Try.underlying22 (.int .u8 0) 1 info5 rfl (z_15) (z_2) 0 (ok := fun _ => True) (okp := fun _ => True) rfl (fun _ hk => hk) trivial (of_decide_eq_true (z_3)) (Nat.le_trans (Nat.mul_le_mul_right _ (of_decide_eq_true (z_3) : a1.toNat ≤ 281474976710656)) (z_2)) (Below.refl _ _) (Nat.le_refl _) ?_; intro v160 w5 ho6 hb hg_ hnew_; clear hg_ hnew_; (first | rw [← Ny159.out] at ho6 | (simp only [Int.reduceToNat] at ho6; rw [← Ny159.out] at ho6)); have n0_ := Aside0.mk (Kd.R_lower ho6 (below_size (z_5))); have n1_ := Aside0.mk (below_step (z_5) hb); clear HB; have HO161 := n0_; have HB := n1_; clear n0_ n1_; clear hb ho6))
   go_loopg [0, 6] k (fun kq v0 v6 w' => ∃ (x0_1 : Int) (x5_1 : List Int) (x6_1 : Int), v0 = .int .i64 x0_1 ∧ v6 = .int .i64 x6_1 ∧ Aside0 (impl_bytesOf.l0 kq x0_1 x5_1 x6_1 = some r) ∧ Aside0 (kq ≤ k) ∧ Aside0 (Kd.R (Kd.int .u8) 5 w' w.heap.size (fun _ => True) v160 x5_1) ∧ Aside0 (Below w.heap.size w w'))
   case atStart => exact ⟨(a0), (y159), (wrap64 (a1 - 1)), (z_7), (z_7), H', ⟨Nat.le_refl _⟩, ⟨by (with_reducible repeat (first | apply Kd.R_alloc | apply Kd.R_drewN | apply Kd.R_drew)); exact HO161.out⟩, ⟨z_5⟩⟩
   case round =>
    clear H'
    try clear c2
    try clear p2
    try clear c3
    try clear c3b0
    try clear c3b1
    try clear c4
    try clear c4b0
    try clear c4b1
    try clear p6
    obtain ⟨x0_1, x5_1, x6_1, rfl, rfl, HA, HK1, HO_5, HB⟩ := hrel
    cases gk with
    | zero => exact absurd HA.out (by simp [impl_bytesOf.l0])
    | succ k1 =>
     have H := HA.out
     clear HA
     simp only [impl_bytesOf.l0] at H
     by_cases c7 : x6_1 ≥ 0
     ·rw [if_pos c7] at H
      have c7b0 : decide (0 ≤ x6_1) = true := decide_eq_true c7
      clear c7
      by_cases c8 : 0 ≤ x6_1
      ·rw [if_pos c8] at H
       have c8b0 : decide (0 ≤ x6_1) = true := decide_eq_true c8
       clear c8
       by_cases c9 : x6_1 < (x5_1.length : Int)
       ·rw [if_pos c9] at H
        have c9b0 : decide (x6_1 < (x5_1.length : Int)) = true := decide_eq_true c9
        clear c9
        obtain ⟨y162, hy162⟩ : ∃ y_ : List Int, y_ = (x5_1.set (x6_1 : Int).toNat ((x0_1) % 256)) := ⟨_, rfl⟩
        replace H : (impl_bytesOf.l0 k1 (x0_1 / 256) y162 (wrap64 (x6_1 - 1))) = some r := by first | (rw [hy162]; with_reducible exact H) | (have H2_ := (Option.bind_some _ _).symm.trans H; rw [hy162]; with_reducible exact H2_) | (have H2_ := (Option.bind_some _ _).symm.trans H; with_reducible exact H2_) | with_reducible exact H | (rw [hy162]; exact H) | exact H
        have Ny162 := Aside0.mk hy162
        clear hy162
        have H' := Aside0.mk H
        clear H
        have p10 : 0 ≤ (x6_1 : Int) := of_decide_eq_true (z_3)
        have q10 : (x6_1 : Int) < ((x5_1.length : Int) : Int) := of_decide_eq_true (z_3)
        obtain ⟨go10, co10, eo10, gb10, gl10, cl10, HG10⟩ := Kd.R_form HO_5.out (z_2)
        (first | cases eo10 | (injection eo10 with ea_ en_ ec_; (first | subst ea_ | (injection ea_ with ea_; subst ea_)); subst ec_; clear en_))
        have GB10 := Aside0.mk gb10
        have GG10 := Aside0.mk HG10
        clear gb10 gl10 HG10
        obtain ⟨hx10_0, hf10_0⟩ := Kd.R_celln 0 HO_5.out (x6_1 : Int) p10 q10
        replace p10 := eq_true p10
        replace q10 := eq_true q10
        have HP11 := Kd.R_putg HO_5.out (x6_1 : Int) ((x0_1) % 256)
        go_wp2_with (first | ((with_reducible refine gate_store (t := 5) (p := 19) rfl ?_); refine store_event (t := 5) (p := 19) (v := ?vo_w12) (w1 := (wr.setCell ⟨go10, (x6_1 : Int).toNat, none⟩ (.int .u8 ((x0_1) % 256)))) ?hg ?ho ?hn ?hr ?_; (case ho => rfl); (case hg => rfl); (case hn => rfl); (case hr => exact z_4); intro w12 hw; have hg : wr.grownBy w12 (some go10) := (by rw [hw]; exact HP11.2); have hp_ : Kd.R (Kd.int .u8) 5 w12 w.heap.size (fun _ => True) (.slice (some ⟨go10, 0, none⟩) x5_1.length co10) y162 := (by rw [hw, Ny162.out]; exact HP11.1); clear HP11; have n0_ := Aside0.mk (hp_); have n1_ := Aside0.mk ((by rw [hw]; exact below_set (HB.out) GB10.out : Below w.heap.size w w12)); clear HO_5; clear HB; have HO_5 := n0_; have HB := n1_; clear n0_ n1_; clear hg hw hp_))
        go_roundg k1
        case measure => have := HK1.out; omega
        case rel => exact ⟨(x0_1 / 256), (y162), (wrap64 (x6_1 - 1)), (z_7), (z_7), H', ⟨z_19⟩, ⟨z_14⟩, ⟨z_5⟩⟩
       ·rw [if_neg c9] at H
        exact absurd H (z_1)
      ·rw [if_neg c8] at H
       exact absurd H (z_1)
     ·rw [if_neg c7] at H
      have c7b0 : decide (0 ≤ x6_1) = false := decide_eq_false c7
      clear c7
      obtain rfl := Option.some.inj H
      go_wp2
      go_ret
      exact ⟨_, z_12, z_14, z_5⟩
  ·rw [if_neg c4] at H
   exact absurd H (z_1)
 ·rw [if_neg c3] at H
  exact absurd H (z_1)

/-! ### impl_RecordBytes: function 15 -/
def impl_RecordBytes.f (k : Nat) (a0 : Int) (a1 : Int) (l2 : List Int) (a3 : Bool) : Option (List Int) := (impl_SealOf.f k a0 a1 l2 a3).bind fun t163 => (if t163 < 0 then (some ([] : List Int)) else ((impl_bit.f a3 128).bind fun t164 => ((some (([(wrap64 ((l2.length : Int) + t164)) % 256] : List Int) : List Int)).bind fun y165 => ((impl_bytesOf.f k t163 2).bind fun t168 => (if y165.length + l2.length < 140737488355328 then ((some (y165 ++ l2 : List Int)).bind fun y171 => (if y171.length + t168.length < 140737488355328 then (some (y171 ++ t168)) else (none))) else (none))))))
theorem impl_RecordBytes.mono : ∀ a0 a1 a2 a3 k, LeO (impl_RecordBytes.f k a0 a1 a2 a3) (impl_RecordBytes.f (k + 1) a0 a1 a2 a3) := by
 intro a0 a1 a2 a3 k
 unfold impl_RecordBytes.f
 repeat' first
   | (with_reducible exact impl_SealOf.mono _ _ _ _ _)
   | (with_reducible exact impl_bytesOf.mono _ _ _)
   | (with_reducible exact LeO.refl _)
   | (with_reducible exact LeO.none _)
   | (with_reducible refine LeO.ite ?_ ?_)
   | (with_reducible refine LeO.bind ?_ (fun _ => ?_))
   | exact impl_SealOf.mono _ _ _ _ _
   | exact impl_bytesOf.mono _ _ _
   | exact LeO.none _
   | refine LeO.ite ?_ ?_
   | refine LeO.bind ?_ (fun _ => ?_)
set_option maxHeartbeats 8000000 in
set_option maxRecDepth 100000 in
theorem impl_RecordBytes.calls (k : Nat) (a0 : Int) (a1 : Int) (A2 : Option Addr) (c2 : Nat) (l2 : List Int) (a3 : Bool) (r : List Int) (w : World) (hr2 : Kd.C (Kd.int .u8) w A2 l2.length l2) (hc2 : l2.length ≤ c2) (h : impl_RecordBytes.f k a0 a1 l2 a3 = some r) :
  Calls Try.prog 15 #[.int .i64 a0, .int .i64 a1, .slice A2 l2.length c2, .bool a3] w fun e w' => ∃ v0_ : Value, e = .returned (v0_) ∧ Kd.R (Kd.int .u8) 5 w' w.heap.size (fun _ => True) v0_ r ∧ Below w.heap.size w w' := by
 have HR2 := Aside0.mk hr2
 have HC2 := Aside0.mk hc2
 clear hr2 hc2
 have HB := Aside0.mk (Below.refl w.heap.size w)
 have H : ((impl_SealOf.f k a0 a1 l2 a3).bind fun t163 => (if t163 < 0 then (some ([] : List Int)) else ((impl_bit.f a3 128).bind fun t164 => ((some (([(wrap64 ((l2.length : Int) + t164)) % 256] : List Int) : List Int)).bind fun y165 => ((impl_bytesOf.f k t163 2).bind fun t168 => (if y165.length + l2.length < 140737488355328 then ((some (y165 ++ l2 : List Int)).bind fun y171 => (if y171.length + t168.length < 140737488355328 then (some (y171 ++ t168)) else (none))) else (none))))))) = some r := h
 clear h
 replace H := Option.bind_eq_some_iff.mp H
 obtain ⟨t163, A50, H⟩ := H
 have A5 := Aside0.mk A50
 clear A50
 by_cases c6 : t163 < 0
 ·rw [if_pos c6] at H
  have c6b0 : decide (t163 < 0) = true := decide_eq_true c6
  clear c6
  obtain rfl := Option.some.inj H
  go_enter Try.func15, Try.ntmps15
  go_wp2_with (first | ((with_reducible refine gate_callee (f := 23) rfl ?_); refine goesL_ (some 14) rfl rfl Try.func23 (z_0) rfl #[.int .i64 a0, .int .i64 a1, .slice A2 l2.length c2, .bool a3] rfl (z_13) ?_; (with_reducible refine (impl_SealOf.calls k a0 a1 _ _ l2 a3 t163 _ ?side1 ?side2 A5.out).mono ?_); (case side1 => exact z_29); (case side2 => exact HC2.out); rintro e w7 ⟨rfl, hb⟩; refine ⟨_, rfl, ?_⟩; have n0_ := Aside0.mk (below_step (z_5) hb); clear HB; have HB := n0_; clear n0_; (try clear hb); (try clear hb2); (try clear hk); (try clear hi)))
  go_ret
  exact ⟨_, z_12, z_30, z_5⟩
 ·rw [if_neg c6] at H
  have c6b0 : decide (t163 < 0) = false := decide_eq_false c6
  clear c6
  replace H := Option.bind_eq_some_iff.mp H
  obtain ⟨t164, A80, H⟩ := H
  have A8 := Aside0.mk A80
  clear A80
  obtain ⟨y165, hy165⟩ : ∃ y_ : List Int, y_ = (([(wrap64 ((l2.length : Int) + t164)) % 256] : List Int)) := ⟨_, rfl⟩
  replace H : ((impl_bytesOf.f k t163 2).bind fun t168 => (if y165.length + l2.length < 140737488355328 then ((some (y165 ++ l2 : List Int)).bind fun y171 => (if y171.length + t168.length < 140737488355328 then (some (y171 ++ t168)) else (none))) else (none))) = some r := by first | (rw [hy165]; with_reducible exact H) | (have H2_ := (Option.bind_some _ _).symm.trans H; rw [hy165]; with_reducible exact H2_) | (have H2_ := (Option.bind_some _ _).symm.trans H; with_reducible exact H2_) | with_reducible exact H | (rw [hy165]; exact H) | exact H
  have Ny165 := Aside0.mk hy165
  clear hy165
  replace H := Option.bind_eq_some_iff.mp H
  obtain ⟨t168, A90, H⟩ := H
  have A9 := Aside0.mk A90
  clear A90
  by_cases c10 : y165.length + l2.length < 140737488355328
  ·rw [if_pos c10] at H
   have LMc10 := Aside0.mk c10
   clear c10
   obtain ⟨y171, hy171⟩ : ∃ y_ : List Int, y_ = (y165 ++ l2) := ⟨_, rfl⟩
   replace H : (if y171.length + t168.length < 140737488355328 then (some (y171 ++ t168)) else (none)) = some r := by first | (rw [hy171]; with_reducible exact H) | (have H2_ := (Option.bind_some _ _).symm.trans H; rw [hy171]; with_reducible exact H2_) | (have H2_ := (Option.bind_some _ _).symm.trans H; with_reducible exact H2_) | with_reducible exact H | (rw [hy171]; exact H) | exact H
   have Ny171 := Aside0.mk hy171
   clear hy171
   by_cases c11 : y171.length + t168.length < 140737488355328
   ·rw [if_pos c11] at H
    have LMc11 := Aside0.mk c11
    clear c11
    obtain ⟨y174, hy174⟩ : ∃ y_ : List Int, y_ = (y171 ++ t168) := ⟨_, rfl⟩
    replace H : (some y174) = some r := by first | (rw [hy174]; with_reducible exact H) | (have H2_ := (Option.bind_some _ _).symm.trans H; rw [hy174]; with_reducible exact H2_) | (have H2_ := (Option.bind_some _ _).symm.trans H; with_reducible exact H2_) | with_reducible exact H | (rw [hy174]; exact H) | exact H
    have Ny174 := Aside0.mk hy174
    clear hy174
    obtain rfl := Option.some.inj H
    have Hcc_ := Aside0.mk (show y174 = y165 ++ l2 ++ t168 by rw [Ny174.out, Ny171.out])
    have HLc_ := Aside0.mk (show y165.length + l2.length + t168.length < 140737488355328 by have h_ := LMc11.out; rw [Ny171.out, List.length_append] at h_; exact h_)
    go_enter Try.func15, Try.ntmps15
    go_wp2_with (first | ((with_reducible refine gate_callee (f := 23) rfl ?_); refine goesL_ (some 14) rfl rfl Try.func23 (z_0) rfl #[.int .i64 a0, .int .i64 a1, .slice A2 l2.length c2, .bool a3] rfl (z_13) ?_; (with_reducible refine (impl_SealOf.calls k a0 a1 _ _ l2 a3 t163 _ ?side1 ?side2 A5.out).mono ?_); (case side1 => exact z_29); (case side2 => exact HC2.out); rintro e w12 ⟨rfl, hb⟩; refine ⟨_, rfl, ?_⟩; have n0_ := Aside0.mk (below_step (z_5) hb); clear HB; have HB := n0_; clear n0_; (try clear hb); (try clear hb2); (try clear hk); (try clear hi)) | ((with_reducible refine gate_callee (f := 24) rfl ?_); refine goesL_ (some 20) rfl rfl Try.func24 (z_0) rfl #[.bool a3, .int .i64 128] rfl (z_13) ?_; (with_reducible refine (impl_bit.calls a3 128 t164 _ A8.out).mono ?_); rintro e w' ⟨rfl, ⟨nd, rfl⟩⟩; refine ⟨_, rfl, ?_⟩) | ((with_reducible refine gate_dst (N := 23) rfl ?_); refine Kd.R_lit (Kd.int .u8) _ 5 ?hg (N := 23) ?hd (xs := ([(wrap64 ((l2.length : Int) + t164)) % 256] : List Int)) (inner := [.int .u8 ((wrap64 ((l2.length : Int) + t164)) % 256)]) (ok := fun _ => True) (okp := fun _ => True) ?hr ?hp (fun _ hk => hk) trivial (Below.refl _ _) (Nat.le_refl _) (z_1) ?_; (case hd => rfl); (case hg => rfl); (case hr => exact z_4); (case hp => exact (Reps.one (show Kd.M (Kd.int .u8) _ _ _ ((wrap64 ((l2.length : Int) + t164)) % 256) [.int .u8 ((wrap64 ((l2.length : Int) + t164)) % 256)] from rfl) (Reps.none _ _))); intro v166 w13 ho14 hb hg_ hnew_; clear hg_ hnew_; (first | rw [← Ny165.out] at ho14 | (simp only [Int.reduceToNat] at ho14; rw [← Ny165.out] at ho14)); have n0_ := Aside0.mk (Kd.R_lower ho14 (below_size (z_5))); have n1_ := Aside0.mk (below_step (z_5) hb); clear HB; have HO167 := n0_; have HB := n1_; clear n0_ n1_; clear hb ho14; obtain ⟨Ax_, cx_, ex_⟩ := Kd.R_slice HO167.out; subst ex_) | ((with_reducible refine gate_callee (f := 25) rfl ?_); refine goesL_ (some 26) rfl rfl Try.func25 (z_0) rfl #[.int .i64 t163, .int .i64 2] rfl (z_13) ?_; (with_reducible refine (impl_bytesOf.calls k t163 2 t168 _ A9.out).mono ?_); rintro e w15 ⟨v169, rfl, ho0, hb⟩; refine ⟨_, rfl, ?_⟩; have n0_ := Aside0.mk (Kd.R_elder' (z_31) (Kd.R_base ho0) hb); have n1_ := Aside0.mk (Kd.R_lower (Kd.R_new' ho0 (Kd.R_lt (z_31))) (below_size (z_5))); have n2_ := Aside0.mk (below_step (z_5) hb); clear HO167; clear HB; have HO167 := n0_; have HO170 := n1_; have HB := n2_; clear n0_ n1_ n2_; (try clear hb); (try clear hb2); (try clear hk); (try clear hi); (try clear ho0); obtain ⟨Ax_, cx_, ex_⟩ := Kd.R_slice HO170.out; subst ex_) | (go_at_call 16; (refine (slices_Concat_byte_byte.calls3 y165 l2 t168 HLc_.out (Kd.K_of_row HO167.out) ⟨A2, c2, rfl, HC2.out, Kd.C_below HR2.out HB.out⟩ (Kd.K_of_row HO170.out)).mono ?_); rintro e w17 ⟨v_, rfl, ho0, hb⟩; rw [← Hcc_.out] at ho0; have n0_ := Aside0.mk (Kd.R_lower ho0 (below_size (z_5))); have n1_ := Aside0.mk (below_step (z_5) hb); clear HB; have HO176 := n0_; have HB := n1_; clear n0_ n1_; clear hb ho0))
    go_ret
    exact ⟨_, z_12, by (with_reducible repeat (first | apply Kd.R_alloc | apply Kd.R_drewN | apply Kd.R_drew)); exact Kd.R_mono HO176.out (fun _ hk => trivial), z_5⟩
   ·rw [if_neg c11] at H
    exact absurd H (z_1)
  ·rw [if_neg c10] at H
   exact absurd H (z_1)

/-! ### impl_Sealed: function 5 -/
mutual
def impl_Sealed.j0 : Nat → Int → List Int → Bool → Option (List Int)
 | 0, _, _, _ => none
 | k + 1, x0, x1, x14 => if x14 = true then (some ([] : List Int)) else (impl_Sealed.l0 k x0 x1 ([] : List Int) 0)
def impl_Sealed.l0 : Nat → Int → List Int → List Int → Int → Option (List Int)
 | 0, _, _, _, _ => none
 | k + 1, x0, x1, x5, x6 => if (x1.length : Int) > 10 then (if 10 ≤ (x1.length : Int) then ((impl_RecordBytes.f k x0 x6 (x1.take 10) false).bind fun t183 => (if x5.length + t183.length < 140737488355328 then (impl_Sealed.l0 k x0 (x1.drop 10) (x5 ++ t183) (wrap64 (x6 + 1))) else (none))) else (none)) else ((impl_RecordBytes.f k x0 x6 x1 true).bind fun t194 => (if x5.length + t194.length < 140737488355328 then (some (x5 ++ t194)) else (none)))
end
def impl_Sealed.f (k : Nat) (a0 : Int) (l1 : List Int) : Option (List Int) := (impl_sealOk.f a0 0 ([] : List Int)).bind fun t177 => (if t177 = true then (impl_Sealed.j0 k a0 l1 (decide ((l1.length : Int) > 1000))) else (impl_Sealed.j0 k a0 l1 true))
theorem impl_Sealed.mono_l : ∀ k, (∀ y0 y1 y2, LeO (impl_Sealed.j0 k y0 y1 y2) (impl_Sealed.j0 (k + 1) y0 y1 y2)) ∧ (∀ y0 y1 y2 y3, LeO (impl_Sealed.l0 k y0 y1 y2 y3) (impl_Sealed.l0 (k + 1) y0 y1 y2 y3))
 | 0 => ⟨fun _ _ _ r h => by simp [impl_Sealed.j0] at h, fun _ _ _ _ r h => by simp [impl_Sealed.l0] at h⟩
 | k + 1 => by
  obtain ⟨ih0, ih1⟩ := impl_Sealed.mono_l k
  refine ⟨?_, ?_⟩
  ·intro y0 y1 y2
   unfold impl_Sealed.j0
   repeat' first
   | (with_reducible exact ih0 _ _ _)
   | (with_reducible exact ih1 _ _ _ _)
   | (with_reducible exact impl_RecordBytes.mono _ _ _ _ _)
   | (with_reducible exact LeO.refl _)
   | (with_reducible exact LeO.none _)
   | (with_reducible refine LeO.ite ?_ ?_)
   | (with_reducible refine LeO.bind ?_ (fun _ => ?_))
   | exact ih0 _ _ _
   | exact ih1 _ _ _ _
   | exact impl_RecordBytes.mono _ _ _ _ _
   | exact LeO.none _
   | refine LeO.ite ?_ ?_
   | refine LeO.bind ?_ (fun _ => ?_)
  ·intro y0 y1 y2 y3
   unfold impl_Sealed.l0
   repeat' first
   | (with_reducible exact ih0 _ _ _)
   | (with_reducible exact ih1 _ _ _ _)
   | (with_reducible exact impl_RecordBytes.mono _ _ _ _ _)
   | (with_reducible exact LeO.refl _)
   | (with_reducible exact LeO.none _)
   | (with_reducible refine LeO.ite ?_ ?_)
   | (with_reducible refine LeO.bind ?_ (fun _ => ?_))
   | exact ih0 _ _ _
   | exact ih1 _ _ _ _
   | exact impl_RecordBytes.mono _ _ _ _ _
   | exact LeO.none _
   | refine LeO.ite ?_ ?_
   | refine LeO.bind ?_ (fun _ => ?_)
theorem impl_Sealed.mono : ∀ a0 a1 k, LeO (impl_Sealed.f k a0 a1) (impl_Sealed.f (k + 1) a0 a1) := by
 intro a0 a1 k
 obtain ⟨ih0, ih1⟩ := impl_Sealed.mono_l k
 unfold impl_Sealed.f
 repeat' first
   | (with_reducible exact ih0 _ _ _)
   | (with_reducible exact ih1 _ _ _ _)
   | (with_reducible exact impl_RecordBytes.mono _ _ _ _ _)
   | (with_reducible exact LeO.refl _)
   | (with_reducible exact LeO.none _)
   | (with_reducible refine LeO.ite ?_ ?_)
   | (with_reducible refine LeO.bind ?_ (fun _ => ?_))
   | exact ih0 _ _ _
   | exact ih1 _ _ _ _
   | exact impl_RecordBytes.mono _ _ _ _ _
   | exact LeO.none _
   | refine LeO.ite ?_ ?_
   | refine LeO.bind ?_ (fun _ => ?_)
set_option maxHeartbeats 8000000 in
set_option maxRecDepth 100000 in
theorem impl_Sealed.calls (k : Nat) (a0 : Int) (P1_ : Nat → Prop) (A1 : Option Addr) (c1 : Nat) (l1 : List Int) (r : List Int) (w : World) (hs1 : Kd.V (Kd.int .u8) 5 w w.heap.size (fun k_ => P1_ k_) (.slice A1 l1.length c1) l1) (h : impl_Sealed.f k a0 l1 = some r) :
  Calls Try.prog 5 #[.int .i64 a0, .slice A1 l1.length c1] w fun e w' => ∃ v0_ : Value, e = .returned (v0_) ∧ Kd.R (Kd.int .u8) 5 w' w.heap.size (fun k_ => (w.heap.size ≤ k_)) v0_ r ∧ Below w.heap.size w w' := by
 have HO1 := Aside0.mk (show Kd.V (Kd.int .u8) 5 w w.heap.size (fun k_ => (P1_ k_ ∨ w.heap.size ≤ k_)) (.slice A1 l1.length c1) l1 from Kd.V_mono hs1 (fun k_ hk => .inl hk))
 have HB := Aside0.mk (Below.refl w.heap.size w)
 have H : ((impl_sealOk.f a0 0 ([] : List Int)).bind fun t177 => (if t177 = true then (impl_Sealed.j0 k a0 l1 (decide ((l1.length : Int) > 1000))) else (impl_Sealed.j0 k a0 l1 true))) = some r := h
 clear h
 have HC3 := Aside0.mk H
 clear H
 go_enter Try.func5, Try.ntmps5
 go_upto_region 1 with (fail)
 go_cut [14] (fun v14 wc => ∃ (kq : Nat) (x14_2 : Bool), v14 = .bool x14_2 ∧ Aside0 (impl_Sealed.j0 kq a0 l1 x14_2 = some r) ∧ Aside0 (kq ≤ k) ∧ Aside0 (Kd.V (Kd.int .u8) 5 wc w.heap.size (fun k_ => (P1_ k_ ∨ w.heap.size ≤ k_)) (.slice A1 l1.length c1) l1) ∧ Aside0 (Below w.heap.size w wc))
 case first =>
  have H := HC3.out
  clear HC3
  replace H := Option.bind_eq_some_iff.mp H
  obtain ⟨t177, A40, H⟩ := H
  have A4 := Aside0.mk A40
  clear A40
  by_cases c5 : t177 = true
  ·subst c5
   rw [if_pos rfl] at H
   have H' := Aside0.mk H
   clear H
   go_wp2_with (first | ((with_reducible refine gate_callee (f := 14) rfl ?_); refine goesL_ (some 8) rfl rfl Try.func14 (z_0) rfl #[.int .i64 a0, .int .i64 0, .slice none 0 0] rfl (z_13) ?_; (refine (impl_sealOk.calls a0 0 _ _ ([] : List Int) true _ ?side1 ?side2 A4.out).mono ?_); (case side1 => exact z_32); (case side2 => exact z_33); rintro e w' ⟨rfl, ⟨nd, rfl⟩⟩; refine ⟨_, rfl, ?_⟩))
   go_meet
   case rel => exact ⟨_, (decide ((l1.length : Int) > 1000)), (z_7), H', ⟨z_8⟩, ⟨z_34⟩, ⟨z_5⟩⟩
  ·replace c5 := Bool.eq_false_iff.mpr c5
   subst c5
   rw [if_neg (show ¬ (false = true) by decide)] at H
   have H' := Aside0.mk H
   clear H
   go_wp2_with (first | ((with_reducible refine gate_callee (f := 14) rfl ?_); refine goesL_ (some 8) rfl rfl Try.func14 (z_0) rfl #[.int .i64 a0, .int .i64 0, .slice none 0 0] rfl (z_13) ?_; (refine (impl_sealOk.calls a0 0 _ _ ([] : List Int) false _ ?side1 ?side2 A4.out).mono ?_); (case side1 => exact z_32); (case side2 => exact z_33); rintro e w' ⟨rfl, ⟨nd, rfl⟩⟩; refine ⟨_, rfl, ?_⟩))
   go_meet
   case rel => exact ⟨_, (true), (z_7), H', ⟨z_8⟩, ⟨z_34⟩, ⟨z_5⟩⟩
 case rest =>
  clear HC3
  try clear c1
  try clear p2
  try clear c5
  obtain ⟨kq, x14_2, rfl, HA, HJ2, HO_1, HB⟩ := hcut
  cases kq with
  | zero => exact absurd HA.out (by simp [impl_Sealed.j0])
  | succ kj2 =>
   have H := HA.out
   clear HA
   simp only [impl_Sealed.j0] at H
   by_cases c6 : x14_2 = true
   ·subst c6
    rw [if_pos rfl] at H
    obtain rfl := Option.some.inj H
    go_wp2
    go_ret
    exact ⟨_, z_12, z_30, z_5⟩
   ·replace c6 := Bool.eq_false_iff.mpr c6
    subst c6
    rw [if_neg (show ¬ (false = true) by decide)] at H
    have H' := Aside0.mk H
    clear H
    go_wp2
    go_loopg [1, 5, 6] kj2 (fun kq v1 v5 v6 w' => ∃ (x1_2 : List Int) (x5_2 : List Int) (x6_2 : Int), v6 = .int .i64 x6_2 ∧ Aside0 (impl_Sealed.l0 kq a0 x1_2 x5_2 x6_2 = some r) ∧ Aside0 (kq ≤ kj2) ∧ Aside0 (Kd.V (Kd.int .u8) 5 w' w.heap.size (fun k_ => (P1_ k_ ∨ w.heap.size ≤ k_) ∧ some k_ ≠ (v5 : Value).ownBlock) v1 x1_2) ∧ Aside0 (Kd.R (Kd.int .u8) 5 w' w.heap.size (fun k_ => (w.heap.size ≤ k_)) v5 x5_2) ∧ Aside0 (Below w.heap.size w w'))
    case atStart => exact ⟨(l1), (([] : List Int)), (0), (z_7), H', ⟨Nat.le_refl _⟩, ⟨by (with_reducible repeat (first | apply Kd.V_alloc | apply Kd.V_drewN | apply Kd.V_drew)); exact Kd.V_mono HO_1.out (fun _ hk => ⟨hk, (by simp [Value.ownBlock])⟩)⟩, ⟨z_30⟩, ⟨z_5⟩⟩
    case round =>
     clear H'
     try clear c1
     try clear p2
     try clear c5
     try clear c6
     try clear p2
     obtain ⟨x1_2, x5_2, x6_2, rfl, HA, HK2, HO_1, HO_5, HB⟩ := hrel
     cases gk with
     | zero => exact absurd HA.out (by simp [impl_Sealed.l0])
     | succ k2 =>
      have H := HA.out
      clear HA
      simp only [impl_Sealed.l0] at H
      by_cases c7 : (x1_2.length : Int) > 10
      ·rw [if_pos c7] at H
       have c7b0 : decide (10 < (x1_2.length : Int)) = true := decide_eq_true c7
       have c7b1 : decide (10 < x1_2.length) = true := decide_eq_true (z_2)
       clear c7
       by_cases c8 : 10 ≤ (x1_2.length : Int)
       ·rw [if_pos c8] at H
        have c8b0 := eq_true c8
        have c8b1 : decide (10 ≤ (x1_2.length : Int)) = true := decide_eq_true c8
        clear c8
        obtain ⟨y178, hy178⟩ : ∃ y_ : List Int, y_ = (x1_2.take 10) := ⟨_, rfl⟩
        replace H : ((impl_RecordBytes.f k2 a0 x6_2 y178 false).bind fun t183 => (if x5_2.length + t183.length < 140737488355328 then (impl_Sealed.l0 k2 a0 (x1_2.drop 10) (x5_2 ++ t183) (wrap64 (x6_2 + 1))) else (none))) = some r := by first | (rw [hy178]; with_reducible exact H) | (have H2_ := (Option.bind_some _ _).symm.trans H; rw [hy178]; with_reducible exact H2_) | (have H2_ := (Option.bind_some _ _).symm.trans H; with_reducible exact H2_) | with_reducible exact H | (rw [hy178]; exact H) | exact H
        have Ny178 := Aside0.mk hy178
        clear hy178
        replace H := Option.bind_eq_some_iff.mp H
        obtain ⟨t183, A90, H⟩ := H
        have A9 := Aside0.mk A90
        clear A90
        by_cases c10 : x5_2.length + t183.length < 140737488355328
        ·rw [if_pos c10] at H
         have LMc10 := Aside0.mk c10
         clear c10
         obtain ⟨y186, hy186⟩ : ∃ y_ : List Int, y_ = (x5_2 ++ t183) := ⟨_, rfl⟩
         replace H : (impl_Sealed.l0 k2 a0 (x1_2.drop 10) y186 (wrap64 (x6_2 + 1))) = some r := by first | (rw [hy186]; with_reducible exact H) | (have H2_ := (Option.bind_some _ _).symm.trans H; rw [hy186]; with_reducible exact H2_) | (have H2_ := (Option.bind_some _ _).symm.trans H; with_reducible exact H2_) | with_reducible exact H | (rw [hy186]; exact H) | exact H
         have Ny186 := Aside0.mk hy186
         clear hy186
         have c11b0 := eq_true (of_decide_eq_true (z_3) : 10 ≤ (x1_2.length : Int))
         obtain ⟨y189, hy189⟩ : ∃ y_ : List Int, y_ = (x1_2.drop 10) := ⟨_, rfl⟩
         replace H : (impl_Sealed.l0 k2 a0 y189 y186 (wrap64 (x6_2 + 1))) = some r := by first | (rw [hy189]; with_reducible exact H) | (have H2_ := (Option.bind_some _ _).symm.trans H; rw [hy189]; with_reducible exact H2_) | (have H2_ := (Option.bind_some _ _).symm.trans H; with_reducible exact H2_) | with_reducible exact H | (rw [hy189]; exact H) | exact H
         have Ny189 := Aside0.mk hy189
         clear hy189
         have H' := Aside0.mk H
         clear H
         obtain ⟨Ao12, co12, eo12⟩ := Kd.V_slice HO_1.out
         subst eo12
         have q13 : (10 : Int) ≤ ((x1_2.length : Int) : Int) := of_decide_eq_true (z_3)
         obtain ⟨i013, hi013, _, hsz13, _⟩ := info_parts info5
         have hroom13 : x1_2.length ≤ co12 := (Kd.V_reads' HO_1.out).2.1
         have hC13 : Kd.F (Kd.int .u8) _ _ Ao12 x1_2.length x1_2 := (Kd.V_at (base := w.heap.size) HO_1.out).2.2
         have hcut13 := cut_to (P := Try.prog) 22 5 .i64 Try.underlying22 hi013 Ao12 x1_2.length co12 10 (z_2) q13 hroom13
         have hr13 := Kd.F_take (m := 10) hC13 (z_2)
         have hy13 : y178.length = (10 : Int).toNat := (by rw [Ny178.out, List.length_take]; omega)
         rw [← Ny178.out] at hr13
         rw [← hy13] at hcut13
         have HO182 := Aside0.mk (show Kd.V (Kd.int .u8) 5 _ w.heap.size _ (.slice Ao12 y178.length co12) y178 from Kd.V_mk (z_2) hr13)
         have HC182 := Aside0.mk (show y178.length ≤ co12 from z_2)
         clear hr13 hC13 hroom13 hi013 hsz13
         have KY13 := Aside0.mk hy13
         clear hy13
         replace q13 := eq_true q13
         go_wp2_with (first | ((with_reducible refine gate_callee (f := 15) rfl ?_); refine goesL_ (some 25) rfl rfl Try.func15 (z_0) rfl #[.int .i64 a0, .int .i64 x6_2, .slice Ao12 y178.length co12, .bool false] rfl (z_13) ?_; (with_reducible refine (impl_RecordBytes.calls k2 a0 x6_2 _ _ y178 false t183 _ ?side1 ?side2 A9.out).mono ?_); (case side1 => repeat (first | exact (Kd.V_reads' HO182.out).2.2 | (with_reducible refine Kd.C_alloc ?_ _) | (with_reducible refine Kd.C_drewN ?_ _) | (with_reducible refine Kd.C_drew ?_))); (case side2 => exact (Kd.V_reads' HO182.out).2.1); rintro e w14 ⟨v184, rfl, ho0, hb⟩; refine ⟨_, rfl, ?_⟩; have n0_ := Aside0.mk (Kd.V_elder' (z_35) (Kd.R_base ho0) hb); have n1_ := Aside0.mk (Kd.R_elder' (z_14) (Kd.R_base ho0) hb); have n2_ := Aside0.mk (Kd.V_elder' (by (with_reducible repeat (first | apply Kd.V_alloc | apply Kd.V_drewN | apply Kd.V_drew)); exact HO182.out) (Kd.R_base ho0) hb); have n3_ := Aside0.mk (Kd.R_lower (Kd.R_new' (Kd.R_newM (M := fun k_ => (w.heap.size ≤ k_)) ho0 (below_size (z_5)) (fun k_ h_ => h_)) (Kd.R_lt (z_14))) (below_size (z_5))); have n4_ := Aside0.mk (below_step (z_5) hb); clear HO_1; clear HO_5; clear HO182; clear HB; have HO_1 := n0_; have HO_5 := n1_; have HO182 := n2_; have HO185 := n3_; have HB := n4_; clear n0_ n1_ n2_ n3_ n4_; (try clear hb); (try clear hb2); (try clear hk); (try clear hi); (try clear ho0); obtain ⟨Ao16, co16, eo16⟩ := Kd.R_slice HO185.out; subst eo16) | ((with_reducible refine gate_builtin (b := .append) (xs := #[.tmp 20, .tmp 25]) rfl ?_); at_builtin; refine Kd.R_append_rows (Kd.int .u8) (w0 := w) w.heap.size rfl (.tmp 20) (.tmp 25) 22 5 (.int .u8 0) 1 rfl Try.underlying22 info5 rfl (z_15) (z_2) u5 x5_2 t183 _ _ _ (fun k_ => (w.heap.size ≤ k_) ∧ some k_ ≠ (.slice Ao16 t183.length co16 : Value).ownBlock) (fun _ => False) rfl rfl ?aO ?aR (fun _ _ h => h) (fun _ h => h.elim) ?aF ?aB ?aS ?aL ?_; (case aR => repeat (first | exact (Kd.R_reads' HO185.out).2.2 | (with_reducible refine Kd.C_alloc ?_ _) | (with_reducible refine Kd.C_drewN ?_ _) | (with_reducible refine Kd.C_drew ?_))); (case aB => exact z_24); (case aF => exact (fun k_ hk => ⟨(Nat.le_trans (below_size (z_5)) hk), Kd.fresh' (Kd.R_lt (by (with_reducible repeat (first | apply Kd.R_alloc | apply Kd.R_drewN | apply Kd.R_drew)); exact HO185.out)) k_ hk⟩)); (case aO => exact z_17); (case aS => exact z_27); (case aL => have := LMc10.out; omega); intro v187 w15 ho hb hg hat; rw [← Ny186.out] at ho; have n0_ := Aside0.mk (Kd.V_afterv (ok := (fun k_ => (P1_ k_ ∨ w.heap.size ≤ k_) ∧ some k_ ≠ (.slice Ao16 t183.length co16 : Value).ownBlock)) (z_36) hg hat); have n1_ := Aside0.mk (Kd.V_afterv (ok := (fun k_ => (P1_ k_ ∨ w.heap.size ≤ k_) ∧ some k_ ≠ (.slice Ao16 t183.length co16 : Value).ownBlock)) (by (with_reducible repeat (first | apply Kd.V_alloc | apply Kd.V_drewN | apply Kd.V_drew)); exact Kd.V_mono HO182.out (fun _ hk => ⟨⟨hk.1.1, hk.2⟩, hk.1.2⟩)) hg hat); have n2_ := Aside0.mk (Kd.R_after (ok := (fun k_ => (w.heap.size ≤ k_))) (by (with_reducible repeat (first | apply Kd.R_alloc | apply Kd.R_drewN | apply Kd.R_drew)); exact Kd.R_mono HO185.out (fun _ hk => ⟨hk.1.1, hk.2⟩)) hg hat); have n3_ := Aside0.mk (hb); have n4_ := Aside0.mk (ho); clear HO_1; clear HO182; clear HO185; clear HB; clear HO_5; have HO_1 := n0_; have HO182 := n1_; have HO185 := n2_; have HB := n3_; have HO188 := n4_; clear n0_ n1_ n2_ n3_ n4_; clear ho hb hg hat; have q17 : (10 : Int) ≤ ((x1_2.length : Int) : Int) := of_decide_eq_true (z_3); obtain ⟨i017, hi017, _, hsz17, _⟩ := info_parts info5; have hroom17 : x1_2.length ≤ co12 := (Kd.V_reads' HO_1.out).2.1; have hC17 : Kd.F (Kd.int .u8) _ _ Ao12 x1_2.length x1_2 := (Kd.V_at (base := w.heap.size) HO_1.out).2.2; have hcut17 := cut_from (P := Try.prog) 22 5 .i64 Try.underlying22 hi017 1 hsz17 Ao12 x1_2.length co12 10 (z_2) q17; have hr17 := Kd.F_cut (m := (10 : Int).toNat) (c := co12) hC17 (z_2) hroom17; obtain ⟨A17, hA17⟩ : ∃ A1, A1 = (if co12 = (10 : Int).toNat then Ao12 else (Ao12 : Option Addr).map (·.add ((10 : Int).toNat * 1))) := ⟨_, rfl⟩; obtain ⟨c17, hc17⟩ : ∃ c1, c1 = co12 - (10 : Int).toNat := ⟨_, rfl⟩; have hy17 : y189.length = x1_2.length - (10 : Int).toNat := (by rw [Ny189.out, List.length_drop] <;> omega); rw [show (x1_2).drop (10 : Int).toNat = y189 from Ny189.out.symm] at hr17; replace hr17 : Kd.F (Kd.int .u8) _ _ A17 y189.length y189 := (by rw [hA17]; exact hr17); rw [← hy17, ← hA17, ← hc17] at hcut17; have HO193 := Aside0.mk (show Kd.V (Kd.int .u8) 5 _ w.heap.size _ (.slice A17 y189.length c17) y189 from Kd.V_mk (by rw [hy17, hc17]; exact Nat.sub_le_sub_right hroom17 _) hr17); have HC193 := Aside0.mk (show y189.length ≤ c17 from by rw [hy17, hc17]; exact Nat.sub_le_sub_right hroom17 _); clear hr17 hC17 hroom17 hi017 hsz17 hc17; have KY17 := Aside0.mk hy17; have KA17 := Aside0.mk hA17; clear hy17 hA17; replace q17 := eq_true q17))
         go_roundg k2
         case measure => have := HJ2.out; have := HK2.out; omega
         case rel => exact ⟨(y189), (y186), (wrap64 (x6_2 + 1)), (z_7), H', ⟨z_37⟩, ⟨by (with_reducible repeat (first | apply Kd.V_alloc | apply Kd.V_drewN | apply Kd.V_drew)); exact Kd.V_mono HO193.out (fun _ hk => ⟨hk.1.1, hk.2⟩)⟩, ⟨by (with_reducible repeat (first | apply Kd.R_alloc | apply Kd.R_drewN | apply Kd.R_drew)); exact Kd.R_mono HO188.out (fun _ hk => hk.1)⟩, ⟨z_5⟩⟩
        ·rw [if_neg c10] at H
         exact absurd H (z_1)
       ·rw [if_neg c8] at H
        exact absurd H (z_1)
      ·rw [if_neg c7] at H
       have c7b0 : decide (10 < (x1_2.length : Int)) = false := decide_eq_false c7
       have c7b1 : decide (10 < x1_2.length) = false := decide_eq_false (z_2)
       clear c7
       replace H := Option.bind_eq_some_iff.mp H
       obtain ⟨t194, A180, H⟩ := H
       have A18 := Aside0.mk A180
       clear A180
       by_cases c19 : x5_2.length + t194.length < 140737488355328
       ·rw [if_pos c19] at H
        have LMc19 := Aside0.mk c19
        clear c19
        obtain ⟨y197, hy197⟩ : ∃ y_ : List Int, y_ = (x5_2 ++ t194) := ⟨_, rfl⟩
        replace H : (some y197) = some r := by first | (rw [hy197]; with_reducible exact H) | (have H2_ := (Option.bind_some _ _).symm.trans H; rw [hy197]; with_reducible exact H2_) | (have H2_ := (Option.bind_some _ _).symm.trans H; with_reducible exact H2_) | with_reducible exact H | (rw [hy197]; exact H) | exact H
        have Ny197 := Aside0.mk hy197
        clear hy197
        obtain rfl := Option.some.inj H
        obtain ⟨Ao20, co20, eo20⟩ := Kd.V_slice HO_1.out
        subst eo20
        obtain ⟨Ax_, cx_, ex_⟩ := Kd.R_slice HO_5.out
        subst ex_
        go_wp2_with (first | ((with_reducible refine gate_callee (f := 15) rfl ?_); refine goesL_ (some 33) rfl rfl Try.func15 (z_0) rfl #[.int .i64 a0, .int .i64 x6_2, .slice Ao20 x1_2.length co20, .bool true] rfl (z_13) ?_; (with_reducible refine (impl_RecordBytes.calls k2 a0 x6_2 _ _ x1_2 true t194 _ ?side1 ?side2 A18.out).mono ?_); (case side1 => exact z_38); (case side2 => exact (Kd.V_reads' HO_1.out).2.1); rintro e w21 ⟨v195, rfl, ho0, hb⟩; refine ⟨_, rfl, ?_⟩; have n0_ := Aside0.mk (Kd.V_elder' (z_35) (Kd.R_base ho0) hb); have n1_ := Aside0.mk (Kd.R_elder' (z_14) (Kd.R_base ho0) hb); have n2_ := Aside0.mk (Kd.R_lower (Kd.R_new' (Kd.R_newM (M := fun k_ => (w.heap.size ≤ k_)) ho0 (below_size (z_5)) (fun k_ h_ => h_)) (Kd.R_lt (z_14))) (below_size (z_5))); have n3_ := Aside0.mk (below_step (z_5) hb); clear HO_1; clear HO_5; clear HB; have HO_1 := n0_; have HO_5 := n1_; have HO196 := n2_; have HB := n3_; clear n0_ n1_ n2_ n3_; (try clear hb); (try clear hb2); (try clear hk); (try clear hi); (try clear ho0); obtain ⟨Ao23, co23, eo23⟩ := Kd.R_slice HO196.out; subst eo23) | (go_at_call 16; (refine (slices_Concat_byte_byte.calls2 x5_2 t194 LMc19.out (Kd.K_of_row HO_5.out) (Kd.K_of_row HO196.out)).mono ?_); rintro e w22 ⟨v_, rfl, ho0, hb⟩; rw [← Ny197.out] at ho0; have n0_ := Aside0.mk (Kd.R_lower (Kd.R_newM (M := fun k_ => (w.heap.size ≤ k_)) ho0 (below_size (z_5)) (fun k_ h_ => h_)) (below_size (z_5))); have n1_ := Aside0.mk (below_step (z_5) hb); clear HB; have HO199 := n0_; have HB := n1_; clear n0_ n1_; clear hb ho0))
        go_ret
        exact ⟨_, z_12, by (with_reducible repeat (first | apply Kd.R_alloc | apply Kd.R_drewN | apply Kd.R_drew)); exact Kd.R_mono HO199.out (fun _ hk => hk.1), z_5⟩
       ·rw [if_neg c19] at H
        exact absurd H (z_1)

/-! ### laws_sameBytes: function 6 -/
def laws_sameBytes.f (l0 : List Int) (l1 : List Int) : Option (Bool) := some ((strOfNums l0).toList == (strOfNums l1).toList)
set_option maxHeartbeats 8000000 in
set_option maxRecDepth 100000 in
theorem laws_sameBytes.calls (A0 : Option Addr) (c0 : Nat) (l0 : List Int) (A1 : Option Addr) (c1 : Nat) (l1 : List Int) (r : Bool) (w : World) (hr0 : Kd.C (Kd.int .u8) w A0 l0.length l0) (hc0 : l0.length ≤ c0) (hr1 : Kd.C (Kd.int .u8) w A1 l1.length l1) (hc1 : l1.length ≤ c1) (h : laws_sameBytes.f l0 l1 = some r) :
  Calls Try.prog 6 #[.slice A0 l0.length c0, .slice A1 l1.length c1] w fun e w' => e = .returned (.bool r) ∧ Drawn0 w w' := by
 have HR0 := Aside0.mk hr0
 have HC0 := Aside0.mk hc0
 clear hr0 hc0
 have HR1 := Aside0.mk hr1
 have HC1 := Aside0.mk hc1
 clear hr1 hc1
 have H : (some ((strOfNums l0).toList == (strOfNums l1).toList)) = some r := h
 clear h
 obtain rfl := Option.some.inj H
 have hcv3 := Kd.C_string (P := Try.prog) (A := A0) (c := c0) Try.underlying22 Try.underlying5 Try.underlying9 HR0.out
 have hcv4 := Kd.C_string (P := Try.prog) (A := A1) (c := c1) Try.underlying22 Try.underlying5 Try.underlying9 HR1.out
 go_enter Try.func6, Try.ntmps6
 go_wp2
 go_ret
 exact ⟨z_7, z_23⟩

/-! ### spec_l1In: function 17 -/
def spec_l1In.f (a0 : Int) (a1 : Int) (a2 : Int) : Option (Bool) := if a0 ≥ a1 then (some (decide (a0 ≤ a2))) else (some false)
set_option maxHeartbeats 8000000 in
set_option maxRecDepth 100000 in
theorem spec_l1In.calls (a0 : Int) (a1 : Int) (a2 : Int) (r : Bool) (w : World) (h : spec_l1In.f a0 a1 a2 = some r) :
  Calls Try.prog 17 #[.int .i64 a0, .int .i64 a1, .int .i64 a2] w fun e w' => e = .returned (.bool r) ∧ Drawn0 w w' := by
 have H : (if a0 ≥ a1 then (some (decide (a0 ≤ a2))) else (some false)) = some r := h
 clear h
 by_cases c4 : a0 ≥ a1
 ·rw [if_pos c4] at H
  have c4b0 : decide (a1 ≤ a0) = true := decide_eq_true c4
  clear c4
  obtain rfl := Option.some.inj H
  go_enter Try.func17, Try.ntmps17
  go_wp2
  go_ret
  exact ⟨z_7, z_23⟩
 ·rw [if_neg c4] at H
  have c4b0 : decide (a1 ≤ a0) = false := decide_eq_false c4
  clear c4
  obtain rfl := Option.some.inj H
  go_enter Try.func17, Try.ntmps17
  go_wp2
  go_ret
  exact ⟨z_7, z_23⟩

/-! ### spec_SealOf: function 27 -/
mutual
def spec_SealOf.j0 : Nat → Int → Int → List Int → Bool → Bool → Option (Int)
 | 0, _, _, _, _, _ => none
 | k + 1, x0, x1, x2, x3, x24 => if x24 = true then (some (-1)) else (spec_SealOf.l0 k x0 x2 x3 (wrap64 (x1 + 1)) 0)
def spec_SealOf.l0 : Nat → Int → List Int → Bool → Int → Int → Option (Int)
 | 0, _, _, _, _, _ => none
 | k + 1, x0, x2, x3, x9, x10 => if x10 < (x2.length : Int) then (if 0 ≤ x10 then (spec_SealOf.l0 k x0 x2 x3 (Int.tmod (wrap64 ((wrap64 ((wrap64 (x9 * x0)) + (wrap64 (rd x2 x10)))) + 1)) 65521) (wrap64 (x10 + 1))) else (none)) else (if x3 = true then (some (Int.tmod (wrap64 ((Int.tmod (wrap64 ((wrap64 ((wrap64 (x9 * x0)) + 1)) + 1)) 65521) * x0)) 65521)) else (some (Int.tmod (wrap64 ((Int.tmod (wrap64 ((wrap64 ((wrap64 (x9 * x0)) + 0)) + 1)) 65521) * x0)) 65521)))
end
def spec_SealOf.f (k : Nat) (a0 : Int) (a1 : Int) (l2 : List Int) (a3 : Bool) : Option (Int) := (spec_l1In.f a0 1 65520).bind fun t200 => (if t200 = true then ((spec_l1In.f a1 0 1000).bind fun t201 => (if t201 = true then (spec_SealOf.j0 k a0 a1 l2 a3 (decide ((l2.length : Int) > 10))) else (spec_SealOf.j0 k a0 a1 l2 a3 true))) else (spec_SealOf.j0 k a0 a1 l2 a3 true))
theorem spec_SealOf.mono_l : ∀ k, (∀ y0 y1 y2 y3 y4, LeO (spec_SealOf.j0 k y0 y1 y2 y3 y4) (spec_SealOf.j0 (k + 1) y0 y1 y2 y3 y4)) ∧ (∀ y0 y1 y2 y3 y4, LeO (spec_SealOf.l0 k y0 y1 y2 y3 y4) (spec_SealOf.l0 (k + 1) y0 y1 y2 y3 y4))
 | 0 => ⟨fun _ _ _ _ _ r h => by simp [spec_SealOf.j0] at h, fun _ _ _ _ _ r h => by simp [spec_SealOf.l0] at h⟩
 | k + 1 => by
  obtain ⟨ih0, ih1⟩ := spec_SealOf.mono_l k
  refine ⟨?_, ?_⟩
  ·intro y0 y1 y2 y3 y4
   unfold spec_SealOf.j0
   repeat' first
   | (with_reducible exact ih0 _ _ _ _ _)
   | (with_reducible exact ih1 _ _ _ _ _)
   | (with_reducible exact LeO.refl _)
   | (with_reducible exact LeO.none _)
   | (with_reducible refine LeO.ite ?_ ?_)
   | (with_reducible refine LeO.bind ?_ (fun _ => ?_))
   | exact ih0 _ _ _ _ _
   | exact ih1 _ _ _ _ _
   | exact LeO.none _
   | refine LeO.ite ?_ ?_
   | refine LeO.bind ?_ (fun _ => ?_)
  ·intro y0 y1 y2 y3 y4
   unfold spec_SealOf.l0
   repeat' first
   | (with_reducible exact ih0 _ _ _ _ _)
   | (with_reducible exact ih1 _ _ _ _ _)
   | (with_reducible exact LeO.refl _)
   | (with_reducible exact LeO.none _)
   | (with_reducible refine LeO.ite ?_ ?_)
   | (with_reducible refine LeO.bind ?_ (fun _ => ?_))
   | exact ih0 _ _ _ _ _
   | exact ih1 _ _ _ _ _
   | exact LeO.none _
   | refine LeO.ite ?_ ?_
   | refine LeO.bind ?_ (fun _ => ?_)
theorem spec_SealOf.mono : ∀ a0 a1 a2 a3 k, LeO (spec_SealOf.f k a0 a1 a2 a3) (spec_SealOf.f (k + 1) a0 a1 a2 a3) := by
 intro a0 a1 a2 a3 k
 obtain ⟨ih0, ih1⟩ := spec_SealOf.mono_l k
 unfold spec_SealOf.f
 repeat' first
   | (with_reducible exact ih0 _ _ _ _ _)
   | (with_reducible exact ih1 _ _ _ _ _)
   | (with_reducible exact LeO.refl _)
   | (with_reducible exact LeO.none _)
   | (with_reducible refine LeO.ite ?_ ?_)
   | (with_reducible refine LeO.bind ?_ (fun _ => ?_))
   | exact ih0 _ _ _ _ _
   | exact ih1 _ _ _ _ _
   | exact LeO.none _
   | refine LeO.ite ?_ ?_
   | refine LeO.bind ?_ (fun _ => ?_)
set_option maxHeartbeats 8000000 in
set_option maxRecDepth 100000 in
theorem spec_SealOf.calls (k : Nat) (a0 : Int) (a1 : Int) (A2 : Option Addr) (c2 : Nat) (l2 : List Int) (a3 : Bool) (r : Int) (w : World) (hr2 : Kd.C (Kd.int .u8) w A2 l2.length l2) (hc2 : l2.length ≤ c2) (h : spec_SealOf.f k a0 a1 l2 a3 = some r) :
  Calls Try.prog 27 #[.int .i64 a0, .int .i64 a1, .slice A2 l2.length c2, .bool a3] w fun e w' => e = .returned (.int .i64 r) ∧ Drawn0 w w' := by
 have HR2 := Aside0.mk hr2
 have HC2 := Aside0.mk hc2
 clear hr2 hc2
 have H : ((spec_l1In.f a0 1 65520).bind fun t200 => (if t200 = true then ((spec_l1In.f a1 0 1000).bind fun t201 => (if t201 = true then (spec_SealOf.j0 k a0 a1 l2 a3 (decide ((l2.length : Int) > 10))) else (spec_SealOf.j0 k a0 a1 l2 a3 true))) else (spec_SealOf.j0 k a0 a1 l2 a3 true))) = some r := h
 clear h
 have HC5 := Aside0.mk H
 clear H
 go_enter Try.func27, Try.ntmps27
 go_upto_region 1 with (fail)
 go_cut [24] (fun v24 wc => ∃ (kq : Nat) (x24_4 : Bool), v24 = .bool x24_4 ∧ Aside0 (spec_SealOf.j0 kq a0 a1 l2 a3 x24_4 = some r) ∧ Aside0 (kq ≤ k) ∧ Drawn0 w wc)
 case first =>
  have H := HC5.out
  clear HC5
  replace H := Option.bind_eq_some_iff.mp H
  obtain ⟨t200, A60, H⟩ := H
  have A6 := Aside0.mk A60
  clear A60
  by_cases c7 : t200 = true
  ·subst c7
   rw [if_pos rfl] at H
   replace H := Option.bind_eq_some_iff.mp H
   obtain ⟨t201, A80, H⟩ := H
   have A8 := Aside0.mk A80
   clear A80
   by_cases c9 : t201 = true
   ·subst c9
    rw [if_pos rfl] at H
    have H' := Aside0.mk H
    clear H
    go_wp2_with (first | ((with_reducible refine gate_callee (f := 17) rfl ?_); refine goesL_ (some 13) rfl rfl Try.func17 (z_0) rfl #[.int .i64 a0, .int .i64 1, .int .i64 65520] rfl (z_13) ?_; (with_reducible refine (spec_l1In.calls a0 1 65520 true _ A6.out).mono ?_); rintro e w' ⟨rfl, ⟨nd, rfl⟩⟩; refine ⟨_, rfl, ?_⟩) | (go_at_call 17; (with_reducible refine (spec_l1In.calls a1 0 1000 true _ A8.out).mono ?_); rintro e w' ⟨rfl, ⟨nd, rfl⟩⟩))
    go_meet
    case rel => exact ⟨_, (decide ((l2.length : Int) > 10)), (z_7), H', ⟨z_8⟩, z_23⟩
   ·replace c9 := Bool.eq_false_iff.mpr c9
    subst c9
    rw [if_neg (show ¬ (false = true) by decide)] at H
    have H' := Aside0.mk H
    clear H
    go_wp2_with (first | ((with_reducible refine gate_callee (f := 17) rfl ?_); refine goesL_ (some 13) rfl rfl Try.func17 (z_0) rfl #[.int .i64 a0, .int .i64 1, .int .i64 65520] rfl (z_13) ?_; (with_reducible refine (spec_l1In.calls a0 1 65520 true _ A6.out).mono ?_); rintro e w' ⟨rfl, ⟨nd, rfl⟩⟩; refine ⟨_, rfl, ?_⟩) | (go_at_call 17; (with_reducible refine (spec_l1In.calls a1 0 1000 false _ A8.out).mono ?_); rintro e w' ⟨rfl, ⟨nd, rfl⟩⟩))
    go_meet
    case rel => exact ⟨_, (true), (z_7), H', ⟨z_8⟩, z_23⟩
  ·replace c7 := Bool.eq_false_iff.mpr c7
   subst c7
   rw [if_neg (show ¬ (false = true) by decide)] at H
   have H' := Aside0.mk H
   clear H
   go_wp2_with (first | ((with_reducible refine gate_callee (f := 17) rfl ?_); refine goesL_ (some 13) rfl rfl Try.func17 (z_0) rfl #[.int .i64 a0, .int .i64 1, .int .i64 65520] rfl (z_13) ?_; (with_reducible refine (spec_l1In.calls a0 1 65520 false _ A6.out).mono ?_); rintro e w' ⟨rfl, ⟨nd, rfl⟩⟩; refine ⟨_, rfl, ?_⟩))
   go_meet
   case rel => exact ⟨_, (true), (z_7), H', ⟨z_8⟩, z_23⟩
 case rest =>
  clear HC5
  try clear c1
  try clear c2
  try clear p2
  try clear c7
  try clear c9
  obtain ⟨kq, x24_4, rfl, HA, HJ4, ⟨mc4, rfl⟩⟩ := hcut
  cases kq with
  | zero => exact absurd HA.out (by simp [spec_SealOf.j0])
  | succ kj4 =>
   have H := HA.out
   clear HA
   simp only [spec_SealOf.j0] at H
   by_cases c10 : x24_4 = true
   ·subst c10
    rw [if_pos rfl] at H
    obtain rfl := Option.some.inj H
    go_wp2
    go_ret
    exact ⟨z_7, z_23⟩
   ·replace c10 := Bool.eq_false_iff.mpr c10
    subst c10
    rw [if_neg (show ¬ (false = true) by decide)] at H
    have H' := Aside0.mk H
    clear H
    go_wp2
    go_loopg [9, 10] kj4 (fun kq v9 v10 w' => ∃ (x9_2 : Int) (x10_2 : Int), v9 = .int .i64 x9_2 ∧ v10 = .int .i64 x10_2 ∧ Aside0 (spec_SealOf.l0 kq a0 l2 a3 x9_2 x10_2 = some r) ∧ Aside0 (kq ≤ kj4) ∧ Drawn0 w w')
    case atStart => exact ⟨(wrap64 (a1 + 1)), (0), (z_7), (z_7), H', ⟨Nat.le_refl _⟩, z_23⟩
    case round =>
     clear H'
     try clear c1
     try clear c2
     try clear p2
     try clear c4
     try clear p6
     try clear c7
     try clear c9
     try clear c10
     try clear p2
     obtain ⟨x9_2, x10_2, rfl, rfl, HA, HK2, ⟨m2, rfl⟩⟩ := hrel
     cases gk with
     | zero => exact absurd HA.out (by simp [spec_SealOf.l0])
     | succ k2 =>
      have H := HA.out
      clear HA
      simp only [spec_SealOf.l0] at H
      by_cases c11 : x10_2 < (l2.length : Int)
      ·rw [if_pos c11] at H
       have c11b0 : decide (x10_2 < (l2.length : Int)) = true := decide_eq_true c11
       clear c11
       by_cases c12 : 0 ≤ x10_2
       ·rw [if_pos c12] at H
        have c12b0 : decide (0 ≤ x10_2) = true := decide_eq_true c12
        clear c12
        have H' := Aside0.mk H
        clear H
        have p202 : 0 ≤ (x10_2 : Int) := of_decide_eq_true (z_3)
        have q202 : x10_2 < (l2.length : Int) := of_decide_eq_true (z_3)
        obtain ⟨ad202, e202, hx202_0⟩ := Kd.at_int HR2.out x10_2 p202 q202
        cases e202
        replace p202 := eq_true p202
        replace q202 := eq_true q202
        go_wp2
        go_roundg k2
        case measure => have := HJ4.out; have := HK2.out; omega
        case rel => exact ⟨(Int.tmod (wrap64 ((wrap64 ((wrap64 (x9_2 * a0)) + (wrap64 (rd l2 x10_2)))) + 1)) 65521), (wrap64 (x10_2 + 1)), (z_7), (z_7), H', ⟨by have := HJ4.out; have := HK2.out; omega⟩, z_23⟩
       ·rw [if_neg c12] at H
        exact absurd H (z_1)
      ·rw [if_neg c11] at H
       have c11b0 : decide (x10_2 < (l2.length : Int)) = false := decide_eq_false c11
       clear c11
       by_cases c13 : a3 = true
       ·subst c13
        rw [if_pos rfl] at H
        obtain rfl := Option.some.inj H
        go_wp2
        go_ret
        exact ⟨z_7, z_23⟩
       ·replace c13 := Bool.eq_false_iff.mpr c13
        subst c13
        rw [if_neg (show ¬ (false = true) by decide)] at H
        obtain rfl := Option.some.inj H
        go_wp2
        go_ret
        exact ⟨z_7, z_23⟩

end Go.Proofs.Ytenphmeikbjimaa.GFnMixed
