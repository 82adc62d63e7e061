/- What the Go functions that FnMixed reaches come to, walked step by step; there is no condition beyond those each statement names. -/
import Derived.Test.YtenphmeikbjimaaGFnMixedx0
import Derived.Test.YtenphmeikbjimaaGFnMixedx1
import Derived.Test.YtenphmeikbjimaaGFnMixedx2
import Derived.Test.YtenphmeikbjimaaGFnMixedx3
namespace Go.Proofs.Ytenphmeikbjimaa.GFnMixed
open Go.RowKit Go.Proofs.YtenphmeikbjimaaVMixed.PrintWords Go.Proofs.YtenphmeikbjimaaVMixed.PrintLast Go.Proofs.YtenphmeikbjimaaVMixed.PrintMore
open Bool renaming true → T, false → F
attribute [local go_sem] max2_int min2_int max_two min_two max_three min_three max_four min_four   -- for this text's walks alone
set_option linter.unusedVariables false
set_option linter.unusedSimpArgs false

/-! ### impl_NumberAt: function 29 -/
mutual
def impl_NumberAt.j0 : Nat → List Int → Int → Int → Bool → Option (Int)
 | 0, _, _, _, _ => none
 | k + 1, x0, x1, x2, x24 => if x24 = true then (some (-1)) else (if 0 ≤ x1 then (if x1 ≤ (wrap64 (x1 + x2)) then (if (wrap64 (x1 + x2)) ≤ (x0.length : Int) then (impl_NumberAt.l0 k 0 ((x0.take ((wrap64 (x1 + x2)) : Int).toNat).drop (x1 : Int).toNat) (((x0.take ((wrap64 (x1 + x2)) : Int).toNat).drop (x1 : Int).toNat).length : Int) 0) else (none)) else (none)) else (none))
def impl_NumberAt.l0 : Nat → Int → List Int → Int → Int → Option (Int)
 | 0, _, _, _, _ => none
 | k + 1, x7, x30, x31, x32 => if x32 < x31 then (if 0 ≤ x32 then (if x32 < (x30.length : Int) then (impl_NumberAt.l0 k (Go.bits .or .i64 (wrap64 (x7 * 256)) (wrap64 (rd x30 x32))) x30 x31 (wrap64 (x32 + 1))) else (none)) else (none)) else (some x7)
end
def impl_NumberAt.f (k : Nat) (l0 : List Int) (a1 : Int) (a2 : Int) : Option (Int) := (impl_in.f a2 1 4).bind fun t266 => (if t266 = true then (if a1 < 0 then (impl_NumberAt.j0 k l0 a1 a2 true) else (impl_NumberAt.j0 k l0 a1 a2 (decide (a1 > (wrap64 ((l0.length : Int) - a2)))))) else (impl_NumberAt.j0 k l0 a1 a2 true))
theorem impl_NumberAt.mono_l : ∀ k, (∀ y0 y1 y2 y3, LeO (impl_NumberAt.j0 k y0 y1 y2 y3) (impl_NumberAt.j0 (k + 1) y0 y1 y2 y3)) ∧ (∀ y0 y1 y2 y3, LeO (impl_NumberAt.l0 k y0 y1 y2 y3) (impl_NumberAt.l0 (k + 1) y0 y1 y2 y3))
 | 0 => ⟨fun _ _ _ _ r h => by simp [impl_NumberAt.j0] at h, fun _ _ _ _ r h => by simp [impl_NumberAt.l0] at h⟩
 | k + 1 => by
  obtain ⟨ih0, ih1⟩ := impl_NumberAt.mono_l k
  refine ⟨?_, ?_⟩
  ·intro y0 y1 y2 y3
   unfold impl_NumberAt.j0
   repeat' first
   | (with_reducible exact ih0 _ _ _ _)
   | (with_reducible exact ih1 _ _ _ _)
   | (with_reducible exact LeO.refl _)
   | (with_reducible exact LeO.none _)
   | (with_reducible refine LeO.ite ?_ ?_)
   | (with_reducible refine LeO.bind ?_ (fun _ => ?_))
   | exact ih0 _ _ _ _
   | exact ih1 _ _ _ _
   | exact LeO.none _
   | refine LeO.ite ?_ ?_
   | refine LeO.bind ?_ (fun _ => ?_)
  ·intro y0 y1 y2 y3
   unfold impl_NumberAt.l0
   repeat' first
   | (with_reducible exact ih0 _ _ _ _)
   | (with_reducible exact ih1 _ _ _ _)
   | (with_reducible exact LeO.refl _)
   | (with_reducible exact LeO.none _)
   | (with_reducible refine LeO.ite ?_ ?_)
   | (with_reducible refine LeO.bind ?_ (fun _ => ?_))
   | exact ih0 _ _ _ _
   | exact ih1 _ _ _ _
   | exact LeO.none _
   | refine LeO.ite ?_ ?_
   | refine LeO.bind ?_ (fun _ => ?_)
theorem impl_NumberAt.mono : ∀ a0 a1 a2 k, LeO (impl_NumberAt.f k a0 a1 a2) (impl_NumberAt.f (k + 1) a0 a1 a2) := by
 intro a0 a1 a2 k
 obtain ⟨ih0, ih1⟩ := impl_NumberAt.mono_l k
 unfold impl_NumberAt.f
 repeat' first
   | (with_reducible exact ih0 _ _ _ _)
   | (with_reducible exact ih1 _ _ _ _)
   | (with_reducible exact LeO.refl _)
   | (with_reducible exact LeO.none _)
   | (with_reducible refine LeO.ite ?_ ?_)
   | (with_reducible refine LeO.bind ?_ (fun _ => ?_))
   | exact ih0 _ _ _ _
   | exact ih1 _ _ _ _
   | exact LeO.none _
   | refine LeO.ite ?_ ?_
   | refine LeO.bind ?_ (fun _ => ?_)
set_option maxHeartbeats 8000000 in
set_option maxRecDepth 100000 in
theorem impl_NumberAt.calls (k : Nat) (A0 : Option Addr) (c0 : Nat) (l0 : List Int) (a1 : Int) (a2 : Int) (r : Int) (w : World) (hr0 : Kd.C (Kd.int .u8) w A0 l0.length l0) (hc0 : l0.length ≤ c0) (h : impl_NumberAt.f k l0 a1 a2 = some r) :
  Calls Try.prog 29 #[.slice A0 l0.length c0, .int .i64 a1, .int .i64 a2] w fun e w' => e = .returned (.int .i64 r) ∧ Drawn0 w w' := by
 have HR0 := Aside0.mk hr0
 have HC0 := Aside0.mk hc0
 clear hr0 hc0
 have H : ((impl_in.f a2 1 4).bind fun t266 => (if t266 = true then (if a1 < 0 then (impl_NumberAt.j0 k l0 a1 a2 true) else (impl_NumberAt.j0 k l0 a1 a2 (decide (a1 > (wrap64 ((l0.length : Int) - a2)))))) else (impl_NumberAt.j0 k l0 a1 a2 true))) = some r := h
 clear h
 have HC4 := Aside0.mk H
 clear H
 go_enter Try.func29, Try.ntmps29
 go_upto_region 1 with (fail)
 go_cut [24] (fun v24 wc => ∃ (kq : Nat) (x24_3 : Bool), v24 = .bool x24_3 ∧ Aside0 (impl_NumberAt.j0 kq l0 a1 a2 x24_3 = some r) ∧ Aside0 (kq ≤ k) ∧ Drawn0 w wc)
 case first =>
  have H := HC4.out
  clear HC4
  replace H := Option.bind_eq_some_iff.mp H
  obtain ⟨t266, A50, H⟩ := H
  have A5 := Aside0.mk A50
  clear A50
  by_cases c6 : t266 = true
  ·subst c6
   rw [if_pos rfl] at H
   by_cases c7 : a1 < 0
   ·rw [if_pos c7] at H
    have c7b0 : decide (a1 < 0) = true := decide_eq_true c7
    clear c7
    (first | rw [c7b0] | (simp only [i64_w, i32_w]; rw [c7b0]) | skip)
    have H' := Aside0.mk H
    clear H
    go_wp2_with (first | ((with_reducible refine gate_callee (f := 22) rfl ?_); refine goesL_ (some 11) rfl rfl Try.func22 (z_0) rfl #[.int .i64 a2, .int .i64 1, .int .i64 4] rfl (z_13) ?_; (with_reducible refine (impl_in.calls a2 1 4 true _ A5.out).mono ?_); rintro e w' ⟨rfl, ⟨nd, rfl⟩⟩; refine ⟨_, rfl, ?_⟩))
    go_meet
    case rel => exact ⟨_, (true), (z_7), H', ⟨z_8⟩, z_23⟩
   ·rw [if_neg c7] at H
    have c7b0 : decide (a1 < 0) = false := decide_eq_false c7
    clear c7
    (first | rw [c7b0] | (simp only [i64_w, i32_w]; rw [c7b0]) | skip)
    have H' := Aside0.mk H
    clear H
    go_wp2_with (first | ((with_reducible refine gate_callee (f := 22) rfl ?_); refine goesL_ (some 11) rfl rfl Try.func22 (z_0) rfl #[.int .i64 a2, .int .i64 1, .int .i64 4] rfl (z_13) ?_; (with_reducible refine (impl_in.calls a2 1 4 true _ A5.out).mono ?_); rintro e w' ⟨rfl, ⟨nd, rfl⟩⟩; refine ⟨_, rfl, ?_⟩))
    go_meet
    case rel => exact ⟨_, (decide (a1 > (wrap64 ((l0.length : Int) - a2)))), (z_7), H', ⟨z_8⟩, z_23⟩
  ·replace c6 := Bool.eq_false_iff.mpr c6
   subst c6
   rw [if_neg (show ¬ (false = true) by decide)] at H
   have H' := Aside0.mk H
   clear H
   go_wp2_with (first | ((with_reducible refine gate_callee (f := 22) rfl ?_); refine goesL_ (some 11) rfl rfl Try.func22 (z_0) rfl #[.int .i64 a2, .int .i64 1, .int .i64 4] rfl (z_13) ?_; (with_reducible refine (impl_in.calls a2 1 4 false _ A5.out).mono ?_); rintro e w' ⟨rfl, ⟨nd, rfl⟩⟩; refine ⟨_, rfl, ?_⟩))
   go_meet
   case rel => exact ⟨_, (true), (z_7), H', ⟨z_8⟩, z_23⟩
 case rest =>
  clear HC4
  try clear c2
  try clear p2
  try clear c6
  try clear p6
  try clear c7
  try clear c7b0
  obtain ⟨kq, x24_3, rfl, HA, HJ3, ⟨mc3, rfl⟩⟩ := hcut
  cases kq with
  | zero => exact absurd HA.out (by simp [impl_NumberAt.j0])
  | succ kj3 =>
   have H := HA.out
   clear HA
   simp only [impl_NumberAt.j0] at H
   by_cases c8 : x24_3 = true
   ·subst c8
    rw [if_pos rfl] at H
    obtain rfl := Option.some.inj H
    go_wp2
    go_ret
    exact ⟨z_7, z_23⟩
   ·replace c8 := Bool.eq_false_iff.mpr c8
    subst c8
    rw [if_neg (show ¬ (false = true) by decide)] at H
    by_cases c9 : 0 ≤ a1
    ·rw [if_pos c9] at H
     have c9b0 := eq_true c9
     have c9b1 : decide (0 ≤ a1) = true := decide_eq_true c9
     clear c9
     by_cases c10 : a1 ≤ (wrap64 (a1 + a2))
     ·rw [if_pos c10] at H
      have c10b0 := eq_true c10
      have c10b1 : decide (a1 ≤ (wrap64 (a1 + a2))) = true := decide_eq_true c10
      by_cases c11 : (wrap64 (a1 + a2)) ≤ (l0.length : Int)
      ·rw [if_pos c11] at H
       have c11b0 := eq_true c11
       have c11b1 : decide ((wrap64 (a1 + a2)) ≤ (l0.length : Int)) = true := decide_eq_true c11
       have H' := Aside0.mk H
       clear H
       obtain ⟨i012, hi012, _, hsz12, _⟩ := info_parts info5
       obtain ⟨A12, hcut12, hA12, hC12⟩ := print_mid_of (P := Try.prog) (Value.int .u8) 0 22 5 .i64 .i64 Try.underlying22 hi012 hsz12 A0 c0 l0 a1 (wrap64 (a1 + a2)) (of_decide_eq_true (z_3)) (z_45) (of_decide_eq_true (z_3)) HC0.out
       have HR267 := Aside0.mk (Kd.C_of_reads (h1 := fun _ => rfl) (hA12 _ (Kd.reads_of_C HR0.out)))
       have HC267 := Aside0.mk hC12
       clear hA12 hC12 hi012 hsz12
       obtain ⟨xs_, hxs_⟩ : ∃ x_ : List Int, x_ = ((l0.take ((wrap64 (a1 + a2)) : Int).toNat).drop (a1 : Int).toNat) := ⟨_, rfl⟩
       rw [← hxs_] at hcut12 HR267 HC267 H'
       clear hxs_
       go_wp2
       go_loopg [7, 32] kj3 (fun kq v7 v32 w' => ∃ (x7_2 : Int) (x32_2 : Int), v7 = .int .i64 x7_2 ∧ v32 = .int .i64 x32_2 ∧ Aside0 (impl_NumberAt.l0 kq x7_2 xs_ (xs_.length : Int) x32_2 = some r) ∧ Aside0 (kq ≤ kj3) ∧ Drawn0 w w')
       case atStart => exact ⟨(0), (0), (z_7), (z_7), H', ⟨Nat.le_refl _⟩, z_23⟩
       case round =>
        clear H'
        try clear c1
        try clear c2
        try clear p2
        try clear c3
        try clear c6
        try clear p6
        try clear c7
        try clear c7b0
        try clear c8
        try clear c9
        try clear c9b0
        try clear c9b1
        try clear c10
        try clear c10b0
        try clear c10b1
        try clear c11
        try clear c11b0
        try clear c11b1
        try clear p2
        try clear p6
        obtain ⟨x7_2, x32_2, rfl, rfl, HA, HK2, ⟨m2, rfl⟩⟩ := hrel
        cases gk with
        | zero => exact absurd HA.out (by simp [impl_NumberAt.l0])
        | succ k2 =>
         have H := HA.out
         clear HA
         simp only [impl_NumberAt.l0] at H
         by_cases c13 : x32_2 < (xs_.length : Int)
         ·rw [if_pos c13] at H
          have c13b0 : decide (x32_2 < (xs_.length : Int)) = true := decide_eq_true c13
          clear c13
          by_cases c14 : 0 ≤ x32_2
          ·rw [if_pos c14] at H
           have c14b0 : decide (0 ≤ x32_2) = true := decide_eq_true c14
           clear c14
           by_cases c15 : x32_2 < (xs_.length : Int)
           ·rw [if_pos c15] at H
            have c15b0 : decide (x32_2 < (xs_.length : Int)) = true := decide_eq_true c15
            clear c15
            have H' := Aside0.mk H
            clear H
            have p268 : 0 ≤ (x32_2 : Int) := of_decide_eq_true (z_3)
            have q268 : x32_2 < (xs_.length : Int) := of_decide_eq_true (z_3)
            obtain ⟨ad268, e268, hx268_0⟩ := Kd.at_int HR267.out x32_2 p268 q268
            cases e268
            replace p268 := eq_true p268
            replace q268 := eq_true q268
            go_wp2
            go_roundg k2
            case measure => have := HJ3.out; have := HK2.out; omega
            case rel => exact ⟨(Go.bits .or .i64 (wrap64 (x7_2 * 256)) (wrap64 (rd xs_ x32_2))), (wrap64 (x32_2 + 1)), (z_7), (z_7), H', ⟨by have := HJ3.out; have := HK2.out; omega⟩, z_23⟩
           ·rw [if_neg c15] at H
            exact absurd H (z_1)
          ·rw [if_neg c14] at H
           exact absurd H (z_1)
         ·rw [if_neg c13] at H
          have c13b0 : decide (x32_2 < (xs_.length : Int)) = false := decide_eq_false c13
          clear c13
          obtain rfl := Option.some.inj H
          go_wp2
          go_ret
          exact ⟨z_7, z_23⟩
      ·rw [if_neg c11] at H
       exact absurd H (z_1)
     ·rw [if_neg c10] at H
      exact absurd H (z_1)
    ·rw [if_neg c9] at H
     exact absurd H (z_1)

/-! ### impl_RecordFrom: function 19 -/
def impl_RecordFrom.f (k : Nat) (a0 : Int) (a1 : Int) (l2 : List Int) : Option (List Int × Bool × Int) := (impl_sealOk.f a0 a1 ([] : List Int)).bind fun t269 => (if t269 = true then (if (l2.length : Int) = 0 then (some (([] : List Int), false, 0)) else (if 0 < (l2.length : Int) then (if (Int.tmod (wrap64 (rd l2 0)) 128) > 10 then (some (([] : List Int), false, (-1))) else (if (l2.length : Int) < (wrap64 ((Int.tmod (wrap64 (rd l2 0)) 128) + 3)) then (some (([] : List Int), false, 0)) else (if 1 ≤ (wrap64 ((Int.tmod (wrap64 (rd l2 0)) 128) + 1)) then (if (wrap64 ((Int.tmod (wrap64 (rd l2 0)) 128) + 1)) ≤ (l2.length : Int) then ((impl_clone_byte.f ((l2.take ((wrap64 ((Int.tmod (wrap64 (rd l2 0)) 128) + 1)) : Int).toNat).drop 1)).bind fun t273 => ((impl_SealOf.f k a0 a1 t273 (decide ((rd l2 0) ≥ 128))).bind fun t276 => ((impl_NumberAt.f k l2 (wrap64 ((Int.tmod (wrap64 (rd l2 0)) 128) + 1)) 2).bind fun t277 => (if t276 = t277 then (some (t273, decide ((rd l2 0) ≥ 128), wrap64 ((Int.tmod (wrap64 (rd l2 0)) 128) + 3))) else (some (([] : List Int), false, (-1))))))) else (none)) else (none)))) else (none))) else (some (([] : List Int), false, (-1))))
theorem impl_RecordFrom.mono : ∀ a0 a1 a2 k, LeO (impl_RecordFrom.f k a0 a1 a2) (impl_RecordFrom.f (k + 1) a0 a1 a2) := by
 intro a0 a1 a2 k
 unfold impl_RecordFrom.f
 repeat' first
   | (with_reducible exact impl_NumberAt.mono _ _ _ _)
   | (with_reducible exact impl_SealOf.mono _ _ _ _ _)
   | (with_reducible exact LeO.refl _)
   | (with_reducible exact LeO.none _)
   | (with_reducible refine LeO.ite ?_ ?_)
   | (with_reducible refine LeO.bind ?_ (fun _ => ?_))
   | exact impl_NumberAt.mono _ _ _ _
   | exact impl_SealOf.mono _ _ _ _ _
   | exact LeO.none _
   | refine LeO.ite ?_ ?_
   | refine LeO.bind ?_ (fun _ => ?_)
set_option maxHeartbeats 8000000 in
set_option maxRecDepth 100000 in
theorem impl_RecordFrom.calls (k : Nat) (a0 : Int) (a1 : Int) (A2 : Option Addr) (c2 : Nat) (l2 : List Int) (r1 : List Int) (r2 : Bool) (r3 : Int) (w : World) (hr2 : Kd.C (Kd.int .u8) w A2 l2.length l2) (hc2 : l2.length ≤ c2) (h : impl_RecordFrom.f k a0 a1 l2 = some (r1, r2, r3)) :
  Calls Try.prog 19 #[.int .i64 a0, .int .i64 a1, .slice A2 l2.length c2] w fun e w' => ∃ v0_ : Value, e = .returned (.tuple #[v0_, .bool r2, .int .i64 r3]) ∧ Kd.R (Kd.int .u8) 5 w' w.heap.size (fun _ => True) v0_ r1 ∧ Below w.heap.size w w' := by
 have HR2 := Aside0.mk hr2
 have HC2 := Aside0.mk hc2
 clear hr2 hc2
 have HB := Aside0.mk (Below.refl w.heap.size w)
 have H : ((impl_sealOk.f a0 a1 ([] : List Int)).bind fun t269 => (if t269 = true then (if (l2.length : Int) = 0 then (some (([] : List Int), false, 0)) else (if 0 < (l2.length : Int) then (if (Int.tmod (wrap64 (rd l2 0)) 128) > 10 then (some (([] : List Int), false, (-1))) else (if (l2.length : Int) < (wrap64 ((Int.tmod (wrap64 (rd l2 0)) 128) + 3)) then (some (([] : List Int), false, 0)) else (if 1 ≤ (wrap64 ((Int.tmod (wrap64 (rd l2 0)) 128) + 1)) then (if (wrap64 ((Int.tmod (wrap64 (rd l2 0)) 128) + 1)) ≤ (l2.length : Int) then ((impl_clone_byte.f ((l2.take ((wrap64 ((Int.tmod (wrap64 (rd l2 0)) 128) + 1)) : Int).toNat).drop 1)).bind fun t273 => ((impl_SealOf.f k a0 a1 t273 (decide ((rd l2 0) ≥ 128))).bind fun t276 => ((impl_NumberAt.f k l2 (wrap64 ((Int.tmod (wrap64 (rd l2 0)) 128) + 1)) 2).bind fun t277 => (if t276 = t277 then (some (t273, decide ((rd l2 0) ≥ 128), wrap64 ((Int.tmod (wrap64 (rd l2 0)) 128) + 3))) else (some (([] : List Int), false, (-1))))))) else (none)) else (none)))) else (none))) else (some (([] : List Int), false, (-1))))) = some (r1, r2, r3) := h
 clear h
 replace H := Option.bind_eq_some_iff.mp H
 obtain ⟨t269, A40, H⟩ := H
 have A4 := Aside0.mk A40
 clear A40
 by_cases c5 : t269 = true
 ·subst c5
  rw [if_pos rfl] at H
  by_cases c6 : (l2.length : Int) = 0
  ·rw [if_pos c6] at H
   have c6b0 : ((l2.length : Int) == 0) = true := beq_iff_eq.mpr c6
   have c6b1 : ((l2.length : Int) != 0) = false := bne_eq_false_iff_eq.mpr c6
   clear c6
   simp only [Option.some.injEq, Prod.mk.injEq] at H
   obtain ⟨rfl, rfl, rfl⟩ := H
   go_enter Try.func19, Try.ntmps19
   go_wp2_with (first | (go_at_call 14; (refine (impl_sealOk.calls a0 a1 _ _ ([] : List Int) true _ ?side1 ?side2 A4.out).mono ?_); (case side1 => exact z_32); (case side2 => exact z_33); rintro e w' ⟨rfl, ⟨nd, rfl⟩⟩; (try first | exact ⟨rfl, _, World.drewN_drewN _ _ _⟩ | exact ⟨rfl, _, Eq.trans (World.drewN_drewN _ _ _) (congrArg (World.drewN _) (Nat.add_assoc _ _ _))⟩)))
   repeat (go_quiet (first | (go_at_call 14; (refine (impl_sealOk.calls a0 a1 _ _ ([] : List Int) true _ ?side1 ?side2 A4.out).mono ?_); (case side1 => exact z_32); (case side2 => exact z_33); rintro e w' ⟨rfl, ⟨nd, rfl⟩⟩; (try first | exact ⟨rfl, _, World.drewN_drewN _ _ _⟩ | exact ⟨rfl, _, Eq.trans (World.drewN_drewN _ _ _) (congrArg (World.drewN _) (Nat.add_assoc _ _ _))⟩))); try go_wp2_with (first | (go_at_call 14; (refine (impl_sealOk.calls a0 a1 _ _ ([] : List Int) true _ ?side1 ?side2 A4.out).mono ?_); (case side1 => exact z_32); (case side2 => exact z_33); rintro e w' ⟨rfl, ⟨nd, rfl⟩⟩; (try first | exact ⟨rfl, _, World.drewN_drewN _ _ _⟩ | exact ⟨rfl, _, Eq.trans (World.drewN_drewN _ _ _) (congrArg (World.drewN _) (Nat.add_assoc _ _ _))⟩))))
   go_ret3
   exact ⟨_, z_12, z_30, z_5⟩
  ·rw [if_neg c6] at H
   have c6b0 : ((l2.length : Int) == 0) = false := beq_eq_false_iff_ne.mpr c6
   have c6b1 : ((l2.length : Int) != 0) = true := bne_iff_ne.mpr c6
   have c6b2 : ¬ (l2 = []) := fun h_ => c6 (by rw [h_]; rfl)
   by_cases c7 : 0 < (l2.length : Int)
   ·rw [if_pos c7] at H
    have c7b0 : decide (0 < (l2.length : Int)) = true := decide_eq_true c7
    have c7b1 : decide (0 < l2.length) = true := decide_eq_true (z_2)
    clear c7
    by_cases c8 : (Int.tmod (wrap64 (rd l2 0)) 128) > 10
    ·rw [if_pos c8] at H
     have c8b0 : decide (10 < (Int.tmod (wrap64 (rd l2 0)) 128)) = true := decide_eq_true c8
     clear c8
     simp only [Option.some.injEq, Prod.mk.injEq] at H
     obtain ⟨rfl, rfl, rfl⟩ := H
     go_enter Try.func19, Try.ntmps19
     go_wp2_with (first | (go_at_call 14; (refine (impl_sealOk.calls a0 a1 _ _ ([] : List Int) true _ ?side1 ?side2 A4.out).mono ?_); (case side1 => exact z_32); (case side2 => exact z_33); rintro e w' ⟨rfl, ⟨nd, rfl⟩⟩; (try first | exact ⟨rfl, _, World.drewN_drewN _ _ _⟩ | exact ⟨rfl, _, Eq.trans (World.drewN_drewN _ _ _) (congrArg (World.drewN _) (Nat.add_assoc _ _ _))⟩); have p270 : 0 ≤ (0 : Int) := (z_2); have q270 : 0 < (l2.length : Int) := of_decide_eq_true (z_3); obtain ⟨ad270, e270, hx270_0⟩ := Kd.at_int HR2.out 0 p270 q270; cases e270; have qi270 : (0 < l2.length) = True := eq_true (z_2); (try rw [show ((0 : Int)).toNat = 0 from rfl] at hx270_0); (try rw [Addr.add_zero'] at hx270_0); replace p270 := eq_true p270; replace q270 := eq_true q270; have p271 : 0 ≤ (0 : Int) := (z_2); have q271 : 0 < (l2.length : Int) := of_decide_eq_true (z_3); obtain ⟨ad271, e271, hx271_0⟩ := Kd.at_int HR2.out 0 p271 q271; obtain rfl : ad270 = ad271 := (z_49); have qi271 : (0 < l2.length) = True := eq_true (z_2); (try rw [show ((0 : Int)).toNat = 0 from rfl] at hx271_0); (try rw [Addr.add_zero'] at hx271_0); replace p271 := eq_true p271; replace q271 := eq_true q271))
     repeat (go_quiet (first | (go_at_call 14; (refine (impl_sealOk.calls a0 a1 _ _ ([] : List Int) true _ ?side1 ?side2 A4.out).mono ?_); (case side1 => exact z_32); (case side2 => exact z_33); rintro e w' ⟨rfl, ⟨nd, rfl⟩⟩; (try first | exact ⟨rfl, _, World.drewN_drewN _ _ _⟩ | exact ⟨rfl, _, Eq.trans (World.drewN_drewN _ _ _) (congrArg (World.drewN _) (Nat.add_assoc _ _ _))⟩); have p270 : 0 ≤ (0 : Int) := (z_2); have q270 : 0 < (l2.length : Int) := of_decide_eq_true (z_3); obtain ⟨ad270, e270, hx270_0⟩ := Kd.at_int HR2.out 0 p270 q270; cases e270; have qi270 : (0 < l2.length) = True := eq_true (z_2); (try rw [show ((0 : Int)).toNat = 0 from rfl] at hx270_0); (try rw [Addr.add_zero'] at hx270_0); replace p270 := eq_true p270; replace q270 := eq_true q270; have p271 : 0 ≤ (0 : Int) := (z_2); have q271 : 0 < (l2.length : Int) := of_decide_eq_true (z_3); obtain ⟨ad271, e271, hx271_0⟩ := Kd.at_int HR2.out 0 p271 q271; obtain rfl : ad270 = ad271 := (z_49); have qi271 : (0 < l2.length) = True := eq_true (z_2); (try rw [show ((0 : Int)).toNat = 0 from rfl] at hx271_0); (try rw [Addr.add_zero'] at hx271_0); replace p271 := eq_true p271; replace q271 := eq_true q271)); try go_wp2_with (first | (go_at_call 14; (refine (impl_sealOk.calls a0 a1 _ _ ([] : List Int) true _ ?side1 ?side2 A4.out).mono ?_); (case side1 => exact z_32); (case side2 => exact z_33); rintro e w' ⟨rfl, ⟨nd, rfl⟩⟩; (try first | exact ⟨rfl, _, World.drewN_drewN _ _ _⟩ | exact ⟨rfl, _, Eq.trans (World.drewN_drewN _ _ _) (congrArg (World.drewN _) (Nat.add_assoc _ _ _))⟩); have p270 : 0 ≤ (0 : Int) := (z_2); have q270 : 0 < (l2.length : Int) := of_decide_eq_true (z_3); obtain ⟨ad270, e270, hx270_0⟩ := Kd.at_int HR2.out 0 p270 q270; cases e270; have qi270 : (0 < l2.length) = True := eq_true (z_2); (try rw [show ((0 : Int)).toNat = 0 from rfl] at hx270_0); (try rw [Addr.add_zero'] at hx270_0); replace p270 := eq_true p270; replace q270 := eq_true q270; have p271 : 0 ≤ (0 : Int) := (z_2); have q271 : 0 < (l2.length : Int) := of_decide_eq_true (z_3); obtain ⟨ad271, e271, hx271_0⟩ := Kd.at_int HR2.out 0 p271 q271; obtain rfl : ad270 = ad271 := (z_49); have qi271 : (0 < l2.length) = True := eq_true (z_2); (try rw [show ((0 : Int)).toNat = 0 from rfl] at hx271_0); (try rw [Addr.add_zero'] at hx271_0); replace p271 := eq_true p271; replace q271 := eq_true q271)))
     go_ret3
     exact ⟨_, z_12, z_30, z_5⟩
    ·rw [if_neg c8] at H
     have c8b0 : decide (10 < (Int.tmod (wrap64 (rd l2 0)) 128)) = false := decide_eq_false c8
     clear c8
     by_cases c9 : (l2.length : Int) < (wrap64 ((Int.tmod (wrap64 (rd l2 0)) 128) + 3))
     ·rw [if_pos c9] at H
      have c9b0 : decide ((l2.length : Int) < (wrap64 ((Int.tmod (wrap64 (rd l2 0)) 128) + 3))) = true := decide_eq_true c9
      clear c9
      simp only [Option.some.injEq, Prod.mk.injEq] at H
      obtain ⟨rfl, rfl, rfl⟩ := H
      go_enter Try.func19, Try.ntmps19
      go_wp2_with (first | (go_at_call 14; (refine (impl_sealOk.calls a0 a1 _ _ ([] : List Int) true _ ?side1 ?side2 A4.out).mono ?_); (case side1 => exact z_32); (case side2 => exact z_33); rintro e w' ⟨rfl, ⟨nd, rfl⟩⟩; (try first | exact ⟨rfl, _, World.drewN_drewN _ _ _⟩ | exact ⟨rfl, _, Eq.trans (World.drewN_drewN _ _ _) (congrArg (World.drewN _) (Nat.add_assoc _ _ _))⟩); have p270 : 0 ≤ (0 : Int) := (z_2); have q270 : 0 < (l2.length : Int) := of_decide_eq_true (z_3); obtain ⟨ad270, e270, hx270_0⟩ := Kd.at_int HR2.out 0 p270 q270; cases e270; have qi270 : (0 < l2.length) = True := eq_true (z_2); (try rw [show ((0 : Int)).toNat = 0 from rfl] at hx270_0); (try rw [Addr.add_zero'] at hx270_0); replace p270 := eq_true p270; replace q270 := eq_true q270; have p271 : 0 ≤ (0 : Int) := (z_2); have q271 : 0 < (l2.length : Int) := of_decide_eq_true (z_3); obtain ⟨ad271, e271, hx271_0⟩ := Kd.at_int HR2.out 0 p271 q271; obtain rfl : ad270 = ad271 := (z_49); have qi271 : (0 < l2.length) = True := eq_true (z_2); (try rw [show ((0 : Int)).toNat = 0 from rfl] at hx271_0); (try rw [Addr.add_zero'] at hx271_0); replace p271 := eq_true p271; replace q271 := eq_true q271))
      repeat (go_quiet (first | (go_at_call 14; (refine (impl_sealOk.calls a0 a1 _ _ ([] : List Int) true _ ?side1 ?side2 A4.out).mono ?_); (case side1 => exact z_32); (case side2 => exact z_33); rintro e w' ⟨rfl, ⟨nd, rfl⟩⟩; (try first | exact ⟨rfl, _, World.drewN_drewN _ _ _⟩ | exact ⟨rfl, _, Eq.trans (World.drewN_drewN _ _ _) (congrArg (World.drewN _) (Nat.add_assoc _ _ _))⟩); have p270 : 0 ≤ (0 : Int) := (z_2); have q270 : 0 < (l2.length : Int) := of_decide_eq_true (z_3); obtain ⟨ad270, e270, hx270_0⟩ := Kd.at_int HR2.out 0 p270 q270; cases e270; have qi270 : (0 < l2.length) = True := eq_true (z_2); (try rw [show ((0 : Int)).toNat = 0 from rfl] at hx270_0); (try rw [Addr.add_zero'] at hx270_0); replace p270 := eq_true p270; replace q270 := eq_true q270; have p271 : 0 ≤ (0 : Int) := (z_2); have q271 : 0 < (l2.length : Int) := of_decide_eq_true (z_3); obtain ⟨ad271, e271, hx271_0⟩ := Kd.at_int HR2.out 0 p271 q271; obtain rfl : ad270 = ad271 := (z_49); have qi271 : (0 < l2.length) = True := eq_true (z_2); (try rw [show ((0 : Int)).toNat = 0 from rfl] at hx271_0); (try rw [Addr.add_zero'] at hx271_0); replace p271 := eq_true p271; replace q271 := eq_true q271)); try go_wp2_with (first | (go_at_call 14; (refine (impl_sealOk.calls a0 a1 _ _ ([] : List Int) true _ ?side1 ?side2 A4.out).mono ?_); (case side1 => exact z_32); (case side2 => exact z_33); rintro e w' ⟨rfl, ⟨nd, rfl⟩⟩; (try first | exact ⟨rfl, _, World.drewN_drewN _ _ _⟩ | exact ⟨rfl, _, Eq.trans (World.drewN_drewN _ _ _) (congrArg (World.drewN _) (Nat.add_assoc _ _ _))⟩); have p270 : 0 ≤ (0 : Int) := (z_2); have q270 : 0 < (l2.length : Int) := of_decide_eq_true (z_3); obtain ⟨ad270, e270, hx270_0⟩ := Kd.at_int HR2.out 0 p270 q270; cases e270; have qi270 : (0 < l2.length) = True := eq_true (z_2); (try rw [show ((0 : Int)).toNat = 0 from rfl] at hx270_0); (try rw [Addr.add_zero'] at hx270_0); replace p270 := eq_true p270; replace q270 := eq_true q270; have p271 : 0 ≤ (0 : Int) := (z_2); have q271 : 0 < (l2.length : Int) := of_decide_eq_true (z_3); obtain ⟨ad271, e271, hx271_0⟩ := Kd.at_int HR2.out 0 p271 q271; obtain rfl : ad270 = ad271 := (z_49); have qi271 : (0 < l2.length) = True := eq_true (z_2); (try rw [show ((0 : Int)).toNat = 0 from rfl] at hx271_0); (try rw [Addr.add_zero'] at hx271_0); replace p271 := eq_true p271; replace q271 := eq_true q271)))
      go_ret3
      exact ⟨_, z_12, z_30, z_5⟩
     ·rw [if_neg c9] at H
      have c9b0 : decide ((l2.length : Int) < (wrap64 ((Int.tmod (wrap64 (rd l2 0)) 128) + 3))) = false := decide_eq_false c9
      clear c9
      by_cases c10 : 1 ≤ (wrap64 ((Int.tmod (wrap64 (rd l2 0)) 128) + 1))
      ·rw [if_pos c10] at H
       have c10b0 := eq_true c10
       have c10b1 : decide (1 ≤ (wrap64 ((Int.tmod (wrap64 (rd l2 0)) 128) + 1))) = true := decide_eq_true c10
       by_cases c11 : (wrap64 ((Int.tmod (wrap64 (rd l2 0)) 128) + 1)) ≤ (l2.length : Int)
       ·rw [if_pos c11] at H
        have c11b0 := eq_true c11
        have c11b1 : decide ((wrap64 ((Int.tmod (wrap64 (rd l2 0)) 128) + 1)) ≤ (l2.length : Int)) = true := decide_eq_true c11
        replace H := Option.bind_eq_some_iff.mp H
        obtain ⟨t273, A120, H⟩ := H
        have A12 := Aside0.mk A120
        clear A120
        replace H := Option.bind_eq_some_iff.mp H
        obtain ⟨t276, A130, H⟩ := H
        have A13 := Aside0.mk A130
        clear A130
        replace H := Option.bind_eq_some_iff.mp H
        obtain ⟨t277, A140, H⟩ := H
        have A14 := Aside0.mk A140
        clear A140
        by_cases c15 : t276 = t277
        ·rw [if_pos c15] at H
         have c15b0 : (t276 == t277) = true := beq_iff_eq.mpr c15
         have c15b1 : (t276 != t277) = false := bne_eq_false_iff_eq.mpr c15
         clear c15
         simp only [Option.some.injEq, Prod.mk.injEq] at H
         obtain ⟨rfl, rfl, rfl⟩ := H
         go_enter Try.func19, Try.ntmps19
         go_wp2_with (first | (go_at_call 14; (refine (impl_sealOk.calls a0 a1 _ _ ([] : List Int) true _ ?side1 ?side2 A4.out).mono ?_); (case side1 => exact z_32); (case side2 => exact z_33); rintro e w' ⟨rfl, ⟨nd, rfl⟩⟩; (try first | exact ⟨rfl, _, World.drewN_drewN _ _ _⟩ | exact ⟨rfl, _, Eq.trans (World.drewN_drewN _ _ _) (congrArg (World.drewN _) (Nat.add_assoc _ _ _))⟩); have p270 : 0 ≤ (0 : Int) := (z_2); have q270 : 0 < (l2.length : Int) := of_decide_eq_true (z_3); obtain ⟨ad270, e270, hx270_0⟩ := Kd.at_int HR2.out 0 p270 q270; cases e270; have qi270 : (0 < l2.length) = True := eq_true (z_2); (try rw [show ((0 : Int)).toNat = 0 from rfl] at hx270_0); (try rw [Addr.add_zero'] at hx270_0); replace p270 := eq_true p270; replace q270 := eq_true q270; have p271 : 0 ≤ (0 : Int) := (z_2); have q271 : 0 < (l2.length : Int) := of_decide_eq_true (z_3); obtain ⟨ad271, e271, hx271_0⟩ := Kd.at_int HR2.out 0 p271 q271; obtain rfl : ad270 = ad271 := (z_49); have qi271 : (0 < l2.length) = True := eq_true (z_2); (try rw [show ((0 : Int)).toNat = 0 from rfl] at hx271_0); (try rw [Addr.add_zero'] at hx271_0); replace p271 := eq_true p271; replace q271 := eq_true q271; obtain ⟨i016, hi016, _, hsz16, _⟩ := info_parts info5; obtain ⟨A16, hcut16, hA16, hC16⟩ := print_mid_of (P := Try.prog) (Value.int .u8) 0 22 5 .i64 .i64 Try.underlying22 hi016 hsz16 (some ad270) c2 l2 1 (wrap64 ((Int.tmod (wrap64 (rd l2 0)) 128) + 1)) (z_2) (z_45) (of_decide_eq_true (z_3)) HC2.out; have HR272 := Aside0.mk (Kd.C_of_reads (h1 := fun _ => rfl) (hA16 _ (Kd.reads_of_C HR2.out))); have HC272 := Aside0.mk hC16; clear hA16 hC16 hi016 hsz16; obtain ⟨xs_, hxs_⟩ : ∃ x_ : List Int, x_ = ((l2.take ((wrap64 ((Int.tmod (wrap64 (rd l2 0)) 128) + 1)) : Int).toNat).drop (1 : Int).toNat) := ⟨_, rfl⟩; have hxt_ : xs_ = ((l2.take ((wrap64 ((Int.tmod (wrap64 (rd l2 0)) 128) + 1)) : Int).toNat).drop 1) := hxs_; rw [← hxs_] at hcut16 HR272 HC272; rw [← hxt_] at A12; clear hxs_ hxt_) | (go_at_call 20; (with_reducible refine (impl_clone_byte.calls _ _ xs_ t273 _ ?side1 ?side2 A12.out).mono ?_); (case side1 => exact z_50); (case side2 => exact HC272.out); rintro e w17 ⟨v274, rfl, ho0, hb⟩; have n0_ := Aside0.mk (Kd.R_lower ho0 (below_size (z_5))); have n1_ := Aside0.mk (below_step (z_5) hb); clear HB; have HO275 := n0_; have HB := n1_; clear n0_ n1_; (try clear hb); (try clear hb2); (try clear hk); (try clear hi); (try clear ho0); obtain ⟨Ao18, co18, eo18⟩ := Kd.R_slice HO275.out; subst eo18) | (go_at_call 23; (with_reducible refine (impl_SealOf.calls k a0 a1 _ _ t273 (decide ((rd l2 0) ≥ 128)) t276 _ ?side1 ?side2 A13.out).mono ?_); (case side1 => exact z_51); (case side2 => exact z_52); rintro e w19 ⟨rfl, hb⟩; have n0_ := Aside0.mk (Kd.R_below (z_53) hb); have n1_ := Aside0.mk (below_step (z_5) hb); clear HO275; clear HB; have HO275 := n0_; have HB := n1_; clear n0_ n1_; (try clear hb); (try clear hb2); (try clear hk); (try clear hi)) | (go_at_call 29; (with_reducible refine (impl_NumberAt.calls k _ _ l2 (wrap64 ((Int.tmod (wrap64 (rd l2 0)) 128) + 1)) 2 t277 _ ?side1 ?side2 A14.out).mono ?_); (case side1 => exact z_39); (case side2 => exact HC2.out); rintro e w' ⟨rfl, ⟨nd, rfl⟩⟩; (try first | exact ⟨rfl, _, World.drewN_drewN _ _ _⟩ | exact ⟨rfl, _, Eq.trans (World.drewN_drewN _ _ _) (congrArg (World.drewN _) (Nat.add_assoc _ _ _))⟩)))
         repeat (go_quiet (first | (go_at_call 14; (refine (impl_sealOk.calls a0 a1 _ _ ([] : List Int) true _ ?side1 ?side2 A4.out).mono ?_); (case side1 => exact z_32); (case side2 => exact z_33); rintro e w' ⟨rfl, ⟨nd, rfl⟩⟩; (try first | exact ⟨rfl, _, World.drewN_drewN _ _ _⟩ | exact ⟨rfl, _, Eq.trans (World.drewN_drewN _ _ _) (congrArg (World.drewN _) (Nat.add_assoc _ _ _))⟩); have p270 : 0 ≤ (0 : Int) := (z_2); have q270 : 0 < (l2.length : Int) := of_decide_eq_true (z_3); obtain ⟨ad270, e270, hx270_0⟩ := Kd.at_int HR2.out 0 p270 q270; cases e270; have qi270 : (0 < l2.length) = True := eq_true (z_2); (try rw [show ((0 : Int)).toNat = 0 from rfl] at hx270_0); (try rw [Addr.add_zero'] at hx270_0); replace p270 := eq_true p270; replace q270 := eq_true q270; have p271 : 0 ≤ (0 : Int) := (z_2); have q271 : 0 < (l2.length : Int) := of_decide_eq_true (z_3); obtain ⟨ad271, e271, hx271_0⟩ := Kd.at_int HR2.out 0 p271 q271; obtain rfl : ad270 = ad271 := (z_49); have qi271 : (0 < l2.length) = True := eq_true (z_2); (try rw [show ((0 : Int)).toNat = 0 from rfl] at hx271_0); (try rw [Addr.add_zero'] at hx271_0); replace p271 := eq_true p271; replace q271 := eq_true q271; obtain ⟨i016, hi016, _, hsz16, _⟩ := info_parts info5; obtain ⟨A16, hcut16, hA16, hC16⟩ := print_mid_of (P := Try.prog) (Value.int .u8) 0 22 5 .i64 .i64 Try.underlying22 hi016 hsz16 (some ad270) c2 l2 1 (wrap64 ((Int.tmod (wrap64 (rd l2 0)) 128) + 1)) (z_2) (z_45) (of_decide_eq_true (z_3)) HC2.out; have HR272 := Aside0.mk (Kd.C_of_reads (h1 := fun _ => rfl) (hA16 _ (Kd.reads_of_C HR2.out))); have HC272 := Aside0.mk hC16; clear hA16 hC16 hi016 hsz16; obtain ⟨xs_, hxs_⟩ : ∃ x_ : List Int, x_ = ((l2.take ((wrap64 ((Int.tmod (wrap64 (rd l2 0)) 128) + 1)) : Int).toNat).drop (1 : Int).toNat) := ⟨_, rfl⟩; have hxt_ : xs_ = ((l2.take ((wrap64 ((Int.tmod (wrap64 (rd l2 0)) 128) + 1)) : Int).toNat).drop 1) := hxs_; rw [← hxs_] at hcut16 HR272 HC272; rw [← hxt_] at A12; clear hxs_ hxt_) | (go_at_call 20; (with_reducible refine (impl_clone_byte.calls _ _ xs_ t273 _ ?side1 ?side2 A12.out).mono ?_); (case side1 => exact z_50); (case side2 => exact HC272.out); rintro e w17 ⟨v274, rfl, ho0, hb⟩; have n0_ := Aside0.mk (Kd.R_lower ho0 (below_size (z_5))); have n1_ := Aside0.mk (below_step (z_5) hb); clear HB; have HO275 := n0_; have HB := n1_; clear n0_ n1_; (try clear hb); (try clear hb2); (try clear hk); (try clear hi); (try clear ho0); obtain ⟨Ao18, co18, eo18⟩ := Kd.R_slice HO275.out; subst eo18) | (go_at_call 23; (with_reducible refine (impl_SealOf.calls k a0 a1 _ _ t273 (decide ((rd l2 0) ≥ 128)) t276 _ ?side1 ?side2 A13.out).mono ?_); (case side1 => exact z_51); (case side2 => exact z_52); rintro e w19 ⟨rfl, hb⟩; have n0_ := Aside0.mk (Kd.R_below (z_53) hb); have n1_ := Aside0.mk (below_step (z_5) hb); clear HO275; clear HB; have HO275 := n0_; have HB := n1_; clear n0_ n1_; (try clear hb); (try clear hb2); (try clear hk); (try clear hi)) | (go_at_call 29; (with_reducible refine (impl_NumberAt.calls k _ _ l2 (wrap64 ((Int.tmod (wrap64 (rd l2 0)) 128) + 1)) 2 t277 _ ?side1 ?side2 A14.out).mono ?_); (case side1 => exact z_39); (case side2 => exact HC2.out); rintro e w' ⟨rfl, ⟨nd, rfl⟩⟩; (try first | exact ⟨rfl, _, World.drewN_drewN _ _ _⟩ | exact ⟨rfl, _, Eq.trans (World.drewN_drewN _ _ _) (congrArg (World.drewN _) (Nat.add_assoc _ _ _))⟩))); try go_wp2_with (first | (go_at_call 14; (refine (impl_sealOk.calls a0 a1 _ _ ([] : List Int) true _ ?side1 ?side2 A4.out).mono ?_); (case side1 => exact z_32); (case side2 => exact z_33); rintro e w' ⟨rfl, ⟨nd, rfl⟩⟩; (try first | exact ⟨rfl, _, World.drewN_drewN _ _ _⟩ | exact ⟨rfl, _, Eq.trans (World.drewN_drewN _ _ _) (congrArg (World.drewN _) (Nat.add_assoc _ _ _))⟩); have p270 : 0 ≤ (0 : Int) := (z_2); have q270 : 0 < (l2.length : Int) := of_decide_eq_true (z_3); obtain ⟨ad270, e270, hx270_0⟩ := Kd.at_int HR2.out 0 p270 q270; cases e270; have qi270 : (0 < l2.length) = True := eq_true (z_2); (try rw [show ((0 : Int)).toNat = 0 from rfl] at hx270_0); (try rw [Addr.add_zero'] at hx270_0); replace p270 := eq_true p270; replace q270 := eq_true q270; have p271 : 0 ≤ (0 : Int) := (z_2); have q271 : 0 < (l2.length : Int) := of_decide_eq_true (z_3); obtain ⟨ad271, e271, hx271_0⟩ := Kd.at_int HR2.out 0 p271 q271; obtain rfl : ad270 = ad271 := (z_49); have qi271 : (0 < l2.length) = True := eq_true (z_2); (try rw [show ((0 : Int)).toNat = 0 from rfl] at hx271_0); (try rw [Addr.add_zero'] at hx271_0); replace p271 := eq_true p271; replace q271 := eq_true q271; obtain ⟨i016, hi016, _, hsz16, _⟩ := info_parts info5; obtain ⟨A16, hcut16, hA16, hC16⟩ := print_mid_of (P := Try.prog) (Value.int .u8) 0 22 5 .i64 .i64 Try.underlying22 hi016 hsz16 (some ad270) c2 l2 1 (wrap64 ((Int.tmod (wrap64 (rd l2 0)) 128) + 1)) (z_2) (z_45) (of_decide_eq_true (z_3)) HC2.out; have HR272 := Aside0.mk (Kd.C_of_reads (h1 := fun _ => rfl) (hA16 _ (Kd.reads_of_C HR2.out))); have HC272 := Aside0.mk hC16; clear hA16 hC16 hi016 hsz16; obtain ⟨xs_, hxs_⟩ : ∃ x_ : List Int, x_ = ((l2.take ((wrap64 ((Int.tmod (wrap64 (rd l2 0)) 128) + 1)) : Int).toNat).drop (1 : Int).toNat) := ⟨_, rfl⟩; have hxt_ : xs_ = ((l2.take ((wrap64 ((Int.tmod (wrap64 (rd l2 0)) 128) + 1)) : Int).toNat).drop 1) := hxs_; rw [← hxs_] at hcut16 HR272 HC272; rw [← hxt_] at A12; clear hxs_ hxt_) | (go_at_call 20; (with_reducible refine (impl_clone_byte.calls _ _ xs_ t273 _ ?side1 ?side2 A12.out).mono ?_); (case side1 => exact z_50); (case side2 => exact HC272.out); rintro e w17 ⟨v274, rfl, ho0, hb⟩; have n0_ := Aside0.mk (Kd.R_lower ho0 (below_size (z_5))); have n1_ := Aside0.mk (below_step (z_5) hb); clear HB; have HO275 := n0_; have HB := n1_; clear n0_ n1_; (try clear hb); (try clear hb2); (try clear hk); (try clear hi); (try clear ho0); obtain ⟨Ao18, co18, eo18⟩ := Kd.R_slice HO275.out; subst eo18) | (go_at_call 23; (with_reducible refine (impl_SealOf.calls k a0 a1 _ _ t273 (decide ((rd l2 0) ≥ 128)) t276 _ ?side1 ?side2 A13.out).mono ?_); (case side1 => exact z_51); (case side2 => exact z_52); rintro e w19 ⟨rfl, hb⟩; have n0_ := Aside0.mk (Kd.R_below (z_53) hb); have n1_ := Aside0.mk (below_step (z_5) hb); clear HO275; clear HB; have HO275 := n0_; have HB := n1_; clear n0_ n1_; (try clear hb); (try clear hb2); (try clear hk); (try clear hi)) | (go_at_call 29; (with_reducible refine (impl_NumberAt.calls k _ _ l2 (wrap64 ((Int.tmod (wrap64 (rd l2 0)) 128) + 1)) 2 t277 _ ?side1 ?side2 A14.out).mono ?_); (case side1 => exact z_39); (case side2 => exact HC2.out); rintro e w' ⟨rfl, ⟨nd, rfl⟩⟩; (try first | exact ⟨rfl, _, World.drewN_drewN _ _ _⟩ | exact ⟨rfl, _, Eq.trans (World.drewN_drewN _ _ _) (congrArg (World.drewN _) (Nat.add_assoc _ _ _))⟩))))
         go_ret3
         exact ⟨_, z_12, z_53, z_5⟩
        ·rw [if_neg c15] at H
         have c15b0 : (t276 == t277) = false := beq_eq_false_iff_ne.mpr c15
         have c15b1 : (t276 != t277) = true := bne_iff_ne.mpr c15
         simp only [Option.some.injEq, Prod.mk.injEq] at H
         obtain ⟨rfl, rfl, rfl⟩ := H
         go_enter Try.func19, Try.ntmps19
         go_wp2_with (first | (go_at_call 14; (refine (impl_sealOk.calls a0 a1 _ _ ([] : List Int) true _ ?side1 ?side2 A4.out).mono ?_); (case side1 => exact z_32); (case side2 => exact z_33); rintro e w' ⟨rfl, ⟨nd, rfl⟩⟩; (try first | exact ⟨rfl, _, World.drewN_drewN _ _ _⟩ | exact ⟨rfl, _, Eq.trans (World.drewN_drewN _ _ _) (congrArg (World.drewN _) (Nat.add_assoc _ _ _))⟩); have p270 : 0 ≤ (0 : Int) := (z_2); have q270 : 0 < (l2.length : Int) := of_decide_eq_true (z_3); obtain ⟨ad270, e270, hx270_0⟩ := Kd.at_int HR2.out 0 p270 q270; cases e270; have qi270 : (0 < l2.length) = True := eq_true (z_2); (try rw [show ((0 : Int)).toNat = 0 from rfl] at hx270_0); (try rw [Addr.add_zero'] at hx270_0); replace p270 := eq_true p270; replace q270 := eq_true q270; have p271 : 0 ≤ (0 : Int) := (z_2); have q271 : 0 < (l2.length : Int) := of_decide_eq_true (z_3); obtain ⟨ad271, e271, hx271_0⟩ := Kd.at_int HR2.out 0 p271 q271; obtain rfl : ad270 = ad271 := (z_49); have qi271 : (0 < l2.length) = True := eq_true (z_2); (try rw [show ((0 : Int)).toNat = 0 from rfl] at hx271_0); (try rw [Addr.add_zero'] at hx271_0); replace p271 := eq_true p271; replace q271 := eq_true q271; obtain ⟨i020, hi020, _, hsz20, _⟩ := info_parts info5; obtain ⟨A20, hcut20, hA20, hC20⟩ := print_mid_of (P := Try.prog) (Value.int .u8) 0 22 5 .i64 .i64 Try.underlying22 hi020 hsz20 (some ad270) c2 l2 1 (wrap64 ((Int.tmod (wrap64 (rd l2 0)) 128) + 1)) (z_2) (z_45) (of_decide_eq_true (z_3)) HC2.out; have HR272 := Aside0.mk (Kd.C_of_reads (h1 := fun _ => rfl) (hA20 _ (Kd.reads_of_C HR2.out))); have HC272 := Aside0.mk hC20; clear hA20 hC20 hi020 hsz20; obtain ⟨xs_, hxs_⟩ : ∃ x_ : List Int, x_ = ((l2.take ((wrap64 ((Int.tmod (wrap64 (rd l2 0)) 128) + 1)) : Int).toNat).drop (1 : Int).toNat) := ⟨_, rfl⟩; have hxt_ : xs_ = ((l2.take ((wrap64 ((Int.tmod (wrap64 (rd l2 0)) 128) + 1)) : Int).toNat).drop 1) := hxs_; rw [← hxs_] at hcut20 HR272 HC272; rw [← hxt_] at A12; clear hxs_ hxt_) | (go_at_call 20; (with_reducible refine (impl_clone_byte.calls _ _ xs_ t273 _ ?side1 ?side2 A12.out).mono ?_); (case side1 => exact z_50); (case side2 => exact HC272.out); rintro e w21 ⟨v274, rfl, ho0, hb⟩; have n0_ := Aside0.mk (Kd.R_lower ho0 (below_size (z_5))); have n1_ := Aside0.mk (below_step (z_5) hb); clear HB; have HO275 := n0_; have HB := n1_; clear n0_ n1_; (try clear hb); (try clear hb2); (try clear hk); (try clear hi); (try clear ho0); obtain ⟨Ao22, co22, eo22⟩ := Kd.R_slice HO275.out; subst eo22) | (go_at_call 23; (with_reducible refine (impl_SealOf.calls k a0 a1 _ _ t273 (decide ((rd l2 0) ≥ 128)) t276 _ ?side1 ?side2 A13.out).mono ?_); (case side1 => exact z_51); (case side2 => exact z_52); rintro e w23 ⟨rfl, hb⟩; have n0_ := Aside0.mk (Kd.R_below (z_53) hb); have n1_ := Aside0.mk (below_step (z_5) hb); clear HO275; clear HB; have HO275 := n0_; have HB := n1_; clear n0_ n1_; (try clear hb); (try clear hb2); (try clear hk); (try clear hi)) | (go_at_call 29; (with_reducible refine (impl_NumberAt.calls k _ _ l2 (wrap64 ((Int.tmod (wrap64 (rd l2 0)) 128) + 1)) 2 t277 _ ?side1 ?side2 A14.out).mono ?_); (case side1 => exact z_39); (case side2 => exact HC2.out); rintro e w' ⟨rfl, ⟨nd, rfl⟩⟩; (try first | exact ⟨rfl, _, World.drewN_drewN _ _ _⟩ | exact ⟨rfl, _, Eq.trans (World.drewN_drewN _ _ _) (congrArg (World.drewN _) (Nat.add_assoc _ _ _))⟩)))
         repeat (go_quiet (first | (go_at_call 14; (refine (impl_sealOk.calls a0 a1 _ _ ([] : List Int) true _ ?side1 ?side2 A4.out).mono ?_); (case side1 => exact z_32); (case side2 => exact z_33); rintro e w' ⟨rfl, ⟨nd, rfl⟩⟩; (try first | exact ⟨rfl, _, World.drewN_drewN _ _ _⟩ | exact ⟨rfl, _, Eq.trans (World.drewN_drewN _ _ _) (congrArg (World.drewN _) (Nat.add_assoc _ _ _))⟩); have p270 : 0 ≤ (0 : Int) := (z_2); have q270 : 0 < (l2.length : Int) := of_decide_eq_true (z_3); obtain ⟨ad270, e270, hx270_0⟩ := Kd.at_int HR2.out 0 p270 q270; cases e270; have qi270 : (0 < l2.length) = True := eq_true (z_2); (try rw [show ((0 : Int)).toNat = 0 from rfl] at hx270_0); (try rw [Addr.add_zero'] at hx270_0); replace p270 := eq_true p270; replace q270 := eq_true q270; have p271 : 0 ≤ (0 : Int) := (z_2); have q271 : 0 < (l2.length : Int) := of_decide_eq_true (z_3); obtain ⟨ad271, e271, hx271_0⟩ := Kd.at_int HR2.out 0 p271 q271; obtain rfl : ad270 = ad271 := (z_49); have qi271 : (0 < l2.length) = True := eq_true (z_2); (try rw [show ((0 : Int)).toNat = 0 from rfl] at hx271_0); (try rw [Addr.add_zero'] at hx271_0); replace p271 := eq_true p271; replace q271 := eq_true q271; obtain ⟨i020, hi020, _, hsz20, _⟩ := info_parts info5; obtain ⟨A20, hcut20, hA20, hC20⟩ := print_mid_of (P := Try.prog) (Value.int .u8) 0 22 5 .i64 .i64 Try.underlying22 hi020 hsz20 (some ad270) c2 l2 1 (wrap64 ((Int.tmod (wrap64 (rd l2 0)) 128) + 1)) (z_2) (z_45) (of_decide_eq_true (z_3)) HC2.out; have HR272 := Aside0.mk (Kd.C_of_reads (h1 := fun _ => rfl) (hA20 _ (Kd.reads_of_C HR2.out))); have HC272 := Aside0.mk hC20; clear hA20 hC20 hi020 hsz20; obtain ⟨xs_, hxs_⟩ : ∃ x_ : List Int, x_ = ((l2.take ((wrap64 ((Int.tmod (wrap64 (rd l2 0)) 128) + 1)) : Int).toNat).drop (1 : Int).toNat) := ⟨_, rfl⟩; have hxt_ : xs_ = ((l2.take ((wrap64 ((Int.tmod (wrap64 (rd l2 0)) 128) + 1)) : Int).toNat).drop 1) := hxs_; rw [← hxs_] at hcut20 HR272 HC272; rw [← hxt_] at A12; clear hxs_ hxt_) | (go_at_call 20; (with_reducible refine (impl_clone_byte.calls _ _ xs_ t273 _ ?side1 ?side2 A12.out).mono ?_); (case side1 => exact z_50); (case side2 => exact HC272.out); rintro e w21 ⟨v274, rfl, ho0, hb⟩; have n0_ := Aside0.mk (Kd.R_lower ho0 (below_size (z_5))); have n1_ := Aside0.mk (below_step (z_5) hb); clear HB; have HO275 := n0_; have HB := n1_; clear n0_ n1_; (try clear hb); (try clear hb2); (try clear hk); (try clear hi); (try clear ho0); obtain ⟨Ao22, co22, eo22⟩ := Kd.R_slice HO275.out; subst eo22) | (go_at_call 23; (with_reducible refine (impl_SealOf.calls k a0 a1 _ _ t273 (decide ((rd l2 0) ≥ 128)) t276 _ ?side1 ?side2 A13.out).mono ?_); (case side1 => exact z_51); (case side2 => exact z_52); rintro e w23 ⟨rfl, hb⟩; have n0_ := Aside0.mk (Kd.R_below (z_53) hb); have n1_ := Aside0.mk (below_step (z_5) hb); clear HO275; clear HB; have HO275 := n0_; have HB := n1_; clear n0_ n1_; (try clear hb); (try clear hb2); (try clear hk); (try clear hi)) | (go_at_call 29; (with_reducible refine (impl_NumberAt.calls k _ _ l2 (wrap64 ((Int.tmod (wrap64 (rd l2 0)) 128) + 1)) 2 t277 _ ?side1 ?side2 A14.out).mono ?_); (case side1 => exact z_39); (case side2 => exact HC2.out); rintro e w' ⟨rfl, ⟨nd, rfl⟩⟩; (try first | exact ⟨rfl, _, World.drewN_drewN _ _ _⟩ | exact ⟨rfl, _, Eq.trans (World.drewN_drewN _ _ _) (congrArg (World.drewN _) (Nat.add_assoc _ _ _))⟩))); try go_wp2_with (first | (go_at_call 14; (refine (impl_sealOk.calls a0 a1 _ _ ([] : List Int) true _ ?side1 ?side2 A4.out).mono ?_); (case side1 => exact z_32); (case side2 => exact z_33); rintro e w' ⟨rfl, ⟨nd, rfl⟩⟩; (try first | exact ⟨rfl, _, World.drewN_drewN _ _ _⟩ | exact ⟨rfl, _, Eq.trans (World.drewN_drewN _ _ _) (congrArg (World.drewN _) (Nat.add_assoc _ _ _))⟩); have p270 : 0 ≤ (0 : Int) := (z_2); have q270 : 0 < (l2.length : Int) := of_decide_eq_true (z_3); obtain ⟨ad270, e270, hx270_0⟩ := Kd.at_int HR2.out 0 p270 q270; cases e270; have qi270 : (0 < l2.length) = True := eq_true (z_2); (try rw [show ((0 : Int)).toNat = 0 from rfl] at hx270_0); (try rw [Addr.add_zero'] at hx270_0); replace p270 := eq_true p270; replace q270 := eq_true q270; have p271 : 0 ≤ (0 : Int) := (z_2); have q271 : 0 < (l2.length : Int) := of_decide_eq_true (z_3); obtain ⟨ad271, e271, hx271_0⟩ := Kd.at_int HR2.out 0 p271 q271; obtain rfl : ad270 = ad271 := (z_49); have qi271 : (0 < l2.length) = True := eq_true (z_2); (try rw [show ((0 : Int)).toNat = 0 from rfl] at hx271_0); (try rw [Addr.add_zero'] at hx271_0); replace p271 := eq_true p271; replace q271 := eq_true q271; obtain ⟨i020, hi020, _, hsz20, _⟩ := info_parts info5; obtain ⟨A20, hcut20, hA20, hC20⟩ := print_mid_of (P := Try.prog) (Value.int .u8) 0 22 5 .i64 .i64 Try.underlying22 hi020 hsz20 (some ad270) c2 l2 1 (wrap64 ((Int.tmod (wrap64 (rd l2 0)) 128) + 1)) (z_2) (z_45) (of_decide_eq_true (z_3)) HC2.out; have HR272 := Aside0.mk (Kd.C_of_reads (h1 := fun _ => rfl) (hA20 _ (Kd.reads_of_C HR2.out))); have HC272 := Aside0.mk hC20; clear hA20 hC20 hi020 hsz20; obtain ⟨xs_, hxs_⟩ : ∃ x_ : List Int, x_ = ((l2.take ((wrap64 ((Int.tmod (wrap64 (rd l2 0)) 128) + 1)) : Int).toNat).drop (1 : Int).toNat) := ⟨_, rfl⟩; have hxt_ : xs_ = ((l2.take ((wrap64 ((Int.tmod (wrap64 (rd l2 0)) 128) + 1)) : Int).toNat).drop 1) := hxs_; rw [← hxs_] at hcut20 HR272 HC272; rw [← hxt_] at A12; clear hxs_ hxt_) | (go_at_call 20; (with_reducible refine (impl_clone_byte.calls _ _ xs_ t273 _ ?side1 ?side2 A12.out).mono ?_); (case side1 => exact z_50); (case side2 => exact HC272.out); rintro e w21 ⟨v274, rfl, ho0, hb⟩; have n0_ := Aside0.mk (Kd.R_lower ho0 (below_size (z_5))); have n1_ := Aside0.mk (below_step (z_5) hb); clear HB; have HO275 := n0_; have HB := n1_; clear n0_ n1_; (try clear hb); (try clear hb2); (try clear hk); (try clear hi); (try clear ho0); obtain ⟨Ao22, co22, eo22⟩ := Kd.R_slice HO275.out; subst eo22) | (go_at_call 23; (with_reducible refine (impl_SealOf.calls k a0 a1 _ _ t273 (decide ((rd l2 0) ≥ 128)) t276 _ ?side1 ?side2 A13.out).mono ?_); (case side1 => exact z_51); (case side2 => exact z_52); rintro e w23 ⟨rfl, hb⟩; have n0_ := Aside0.mk (Kd.R_below (z_53) hb); have n1_ := Aside0.mk (below_step (z_5) hb); clear HO275; clear HB; have HO275 := n0_; have HB := n1_; clear n0_ n1_; (try clear hb); (try clear hb2); (try clear hk); (try clear hi)) | (go_at_call 29; (with_reducible refine (impl_NumberAt.calls k _ _ l2 (wrap64 ((Int.tmod (wrap64 (rd l2 0)) 128) + 1)) 2 t277 _ ?side1 ?side2 A14.out).mono ?_); (case side1 => exact z_39); (case side2 => exact HC2.out); rintro e w' ⟨rfl, ⟨nd, rfl⟩⟩; (try first | exact ⟨rfl, _, World.drewN_drewN _ _ _⟩ | exact ⟨rfl, _, Eq.trans (World.drewN_drewN _ _ _) (congrArg (World.drewN _) (Nat.add_assoc _ _ _))⟩))))
         go_ret3
         exact ⟨_, z_12, z_30, z_5⟩
       ·rw [if_neg c11] at H
        exact absurd H (z_1)
      ·rw [if_neg c10] at H
       exact absurd H (z_1)
   ·rw [if_neg c7] at H
    exact absurd H (z_1)
 ·replace c5 := Bool.eq_false_iff.mpr c5
  subst c5
  rw [if_neg (show ¬ (false = true) by decide)] at H
  simp only [Option.some.injEq, Prod.mk.injEq] at H
  obtain ⟨rfl, rfl, rfl⟩ := H
  go_enter Try.func19, Try.ntmps19
  go_wp2_with (first | (go_at_call 14; (refine (impl_sealOk.calls a0 a1 _ _ ([] : List Int) false _ ?side1 ?side2 A4.out).mono ?_); (case side1 => exact z_32); (case side2 => exact z_33); rintro e w' ⟨rfl, ⟨nd, rfl⟩⟩; (try first | exact ⟨rfl, _, World.drewN_drewN _ _ _⟩ | exact ⟨rfl, _, Eq.trans (World.drewN_drewN _ _ _) (congrArg (World.drewN _) (Nat.add_assoc _ _ _))⟩)))
  repeat (go_quiet (first | (go_at_call 14; (refine (impl_sealOk.calls a0 a1 _ _ ([] : List Int) false _ ?side1 ?side2 A4.out).mono ?_); (case side1 => exact z_32); (case side2 => exact z_33); rintro e w' ⟨rfl, ⟨nd, rfl⟩⟩; (try first | exact ⟨rfl, _, World.drewN_drewN _ _ _⟩ | exact ⟨rfl, _, Eq.trans (World.drewN_drewN _ _ _) (congrArg (World.drewN _) (Nat.add_assoc _ _ _))⟩))); try go_wp2_with (first | (go_at_call 14; (refine (impl_sealOk.calls a0 a1 _ _ ([] : List Int) false _ ?side1 ?side2 A4.out).mono ?_); (case side1 => exact z_32); (case side2 => exact z_33); rintro e w' ⟨rfl, ⟨nd, rfl⟩⟩; (try first | exact ⟨rfl, _, World.drewN_drewN _ _ _⟩ | exact ⟨rfl, _, Eq.trans (World.drewN_drewN _ _ _) (congrArg (World.drewN _) (Nat.add_assoc _ _ _))⟩))))
  go_ret3
  exact ⟨_, z_12, z_30, z_5⟩

/-! ### impl_Opened: function 8 -/
def impl_Opened.l0 : Nat → Int → List Int → List Int → Int → Option (List Int × Bool)
 | 0, _, _, _, _ => none
 | k + 1, x0, x1, x6, x7 => (impl_RecordFrom.f k x0 x7 x1).bind fun bt278 => (if bt278.2.2 ≤ 0 then ((impl_clone_byte.f x6).bind fun t283 => (some (t283, false))) else (if x6.length + bt278.1.length < 140737488355328 then ((some (x6 ++ bt278.1 : List Int)).bind fun y286 => (if 0 ≤ bt278.2.2 then (if bt278.2.2 ≤ (x1.length : Int) then ((some (x1.drop (bt278.2.2 : Int).toNat : List Int)).bind fun y289 => (if bt278.2.1 = true then ((impl_clone_byte.f y286).bind fun t294 => (some (t294, ((y289.length : Int) == 0)))) else (impl_Opened.l0 k x0 y289 y286 (wrap64 (x7 + 1))))) else (none)) else (none))) else (none)))
def impl_Opened.f (k : Nat) (a0 : Int) (l1 : List Int) : Option (List Int × Bool) := impl_Opened.l0 k a0 l1 ([] : List Int) 0
theorem impl_Opened.mono_l : ∀ k, (∀ y0 y1 y2 y3, LeO (impl_Opened.l0 k y0 y1 y2 y3) (impl_Opened.l0 (k + 1) y0 y1 y2 y3))
 | 0 => fun _ _ _ _ r h => by simp [impl_Opened.l0] at h
 | k + 1 => by
  have ih0 := impl_Opened.mono_l k
  ·intro y0 y1 y2 y3
   unfold impl_Opened.l0
   repeat' first
   | (with_reducible exact ih0 _ _ _ _)
   | (with_reducible exact impl_RecordFrom.mono _ _ _ _)
   | (with_reducible exact LeO.refl _)
   | (with_reducible exact LeO.none _)
   | (with_reducible refine LeO.ite ?_ ?_)
   | (with_reducible refine LeO.bind ?_ (fun _ => ?_))
   | exact ih0 _ _ _ _
   | exact impl_RecordFrom.mono _ _ _ _
   | exact LeO.none _
   | refine LeO.ite ?_ ?_
   | refine LeO.bind ?_ (fun _ => ?_)
theorem impl_Opened.mono : ∀ a0 a1 k, LeO (impl_Opened.f k a0 a1) (impl_Opened.f (k + 1) a0 a1) := by
 intro a0 a1 k
 have ih0 := impl_Opened.mono_l k
 unfold impl_Opened.f
 repeat' first
   | (with_reducible exact ih0 _ _ _ _)
   | (with_reducible exact impl_RecordFrom.mono _ _ _ _)
   | (with_reducible exact LeO.refl _)
   | (with_reducible exact LeO.none _)
   | (with_reducible refine LeO.ite ?_ ?_)
   | (with_reducible refine LeO.bind ?_ (fun _ => ?_))
   | exact ih0 _ _ _ _
   | exact impl_RecordFrom.mono _ _ _ _
   | exact LeO.none _
   | refine LeO.ite ?_ ?_
   | refine LeO.bind ?_ (fun _ => ?_)
def impl_Opened.T7 : Bool × List (List Nat × List Nat) := (true, [([], []), ([], []), ([0, 1], [0, 1]), ([], []), ([], []), ([3, 4], [3, 4]), ([2, 2, 0, 1, 2], [0, 2]), ([5, 6, 0, 1, 2, 3, 4, 5, 6], [3, 5])])
def impl_Opened.B7 : List Nat := [0, 0, 3, 0, 0, 24, 7, 127]
theorem impl_Opened.tab7 : rtab .any (opsOf Try.f8 7) = impl_Opened.T7 := z_0
theorem impl_Opened.bits7 : waitsOk impl_Opened.T7.2 impl_Opened.B7 = true := z_0
set_option maxHeartbeats 8000000 in
set_option maxRecDepth 100000 in
theorem impl_Opened.calls (k : Nat) (a0 : Int) (P1_ : Nat → Prop) (A1 : Option Addr) (c1 : Nat) (l1 : List Int) (r1 : List Int) (r2 : Bool) (w : World) (hs1 : Kd.V (Kd.int .u8) 5 w w.heap.size (fun k_ => P1_ k_) (.slice A1 l1.length c1) l1) (h : impl_Opened.f k a0 l1 = some (r1, r2)) :
  Calls Try.prog 8 #[.int .i64 a0, .slice A1 l1.length c1] w fun e w' => ∃ v0_ : Value, e = .returned (.tuple #[v0_, .bool r2]) ∧ Kd.R (Kd.int .u8) 5 w' w.heap.size (fun k_ => (w.heap.size ≤ k_)) v0_ r1 ∧ Below w.heap.size w w' := by
 have HO1 := Aside0.mk (show Kd.V (Kd.int .u8) 5 w w.heap.size (fun k_ => (P1_ k_ ∨ w.heap.size ≤ k_)) (.slice A1 l1.length c1) l1 from Kd.V_mono hs1 (fun k_ hk => .inl hk))
 have HB := Aside0.mk (Below.refl w.heap.size w)
 have H : (impl_Opened.l0 k a0 l1 ([] : List Int) 0) = some (r1, r2) := h
 clear h
 have H' := Aside0.mk H
 clear H
 go_enter Try.func8, Try.ntmps8
 go_wp2
 go_loopg [1, 6, 7] k (fun kq v1 v6 v7 w' => ∃ (x1_1 : List Int) (x6_1 : List Int) (x7_1 : Int), v7 = .int .i64 x7_1 ∧ Aside0 (impl_Opened.l0 kq a0 x1_1 x6_1 x7_1 = some (r1, r2)) ∧ Aside0 (kq ≤ k) ∧ Aside0 (Kd.V (Kd.int .u8) 5 w' w.heap.size (fun k_ => (P1_ k_ ∨ w.heap.size ≤ k_) ∧ some k_ ≠ (v6 : Value).ownBlock) v1 x1_1) ∧ Aside0 (Kd.R (Kd.int .u8) 5 w' w.heap.size (fun k_ => (w.heap.size ≤ k_)) v6 x6_1) ∧ Aside0 (Below w.heap.size w w'))
 case atStart => exact ⟨(l1), (([] : List Int)), (0), (z_7), H', ⟨Nat.le_refl _⟩, ⟨by (with_reducible repeat (first | apply Kd.V_alloc | apply Kd.V_drewN | apply Kd.V_drew)); exact Kd.V_mono HO1.out (fun _ hk => ⟨hk, (by simp [Value.ownBlock])⟩)⟩, ⟨z_30⟩, ⟨z_5⟩⟩
 case round =>
  clear H'
  try clear c1
  try clear p2
  obtain ⟨x1_1, x6_1, x7_1, rfl, HA, HK1, HO_1, HO_6, HB⟩ := hrel
  cases gk with
  | zero => exact absurd HA.out (by simp [impl_Opened.l0])
  | succ k1 =>
   have H := HA.out
   clear HA
   simp only [impl_Opened.l0] at H
   replace H := Option.bind_eq_some_iff.mp H
   obtain ⟨⟨t278, t279, t280⟩, A30, H⟩ := H
   replace H : (if t280 ≤ 0 then ((impl_clone_byte.f x6_1).bind fun t283 => (some (t283, false))) else (if x6_1.length + t278.length < 140737488355328 then ((some (x6_1 ++ t278 : List Int)).bind fun y286 => (if 0 ≤ t280 then (if t280 ≤ (x1_1.length : Int) then ((some (x1_1.drop (t280 : Int).toNat : List Int)).bind fun y289 => (if t279 = true then ((impl_clone_byte.f y286).bind fun t294 => (some (t294, ((y289.length : Int) == 0)))) else (impl_Opened.l0 k1 a0 y289 y286 (wrap64 (x7_1 + 1))))) else (none)) else (none))) else (none))) = some (r1, r2) := H
   have A3 := Aside0.mk A30
   clear A30
   by_cases c4 : t280 ≤ 0
   ·rw [if_pos c4] at H
    have c4b0 : decide (t280 ≤ 0) = true := decide_eq_true c4
    clear c4
    replace H := Option.bind_eq_some_iff.mp H
    obtain ⟨t283, A50, H⟩ := H
    have A5 := Aside0.mk A50
    clear A50
    simp only [Option.some.injEq, Prod.mk.injEq] at H
    obtain ⟨rfl, rfl⟩ := H
    obtain ⟨Ao6, co6, eo6⟩ := Kd.V_slice HO_1.out
    subst eo6
    go_wp2_with (first | ((with_reducible refine gate_callee (f := 19) rfl ?_); refine goesL_ (some 17) rfl rfl Try.func19 (z_0) rfl #[.int .i64 a0, .int .i64 x7_1, .slice Ao6 x1_1.length co6] rfl (z_13) ?_; (with_reducible refine (impl_RecordFrom.calls k1 a0 x7_1 _ _ x1_1 t278 t279 t280 _ ?side1 ?side2 A3.out).mono ?_); (case side1 => exact z_38); (case side2 => exact (Kd.V_reads' HO_1.out).2.1); rintro e w7 ⟨v281, rfl, ho0, hb⟩; refine ⟨_, rfl, ?_⟩; have n0_ := Aside0.mk (Kd.V_elder' (z_35) (Kd.R_base ho0) hb); have n1_ := Aside0.mk (Kd.R_elder' (z_25) (Kd.R_base ho0) hb); have n2_ := Aside0.mk (Kd.R_lower (Kd.R_new' (Kd.R_newM (M := fun k_ => (w.heap.size ≤ k_)) ho0 (below_size (z_5)) (fun k_ h_ => h_)) (Kd.R_lt (z_25))) (below_size (z_5))); have n3_ := Aside0.mk (below_step (z_5) hb); clear HO_1; clear HO_6; clear HB; have HO_1 := n0_; have HO_6 := n1_; have HO282 := n2_; have HB := n3_; clear n0_ n1_ n2_ n3_; (try clear hb); (try clear hb2); (try clear hk); (try clear hi); (try clear ho0); obtain ⟨Ao8, co8, eo8⟩ := Kd.R_slice HO_6.out; subst eo8) | ((with_reducible refine gate_callee (f := 20) rfl ?_); refine goesL_ (some 24) rfl rfl Try.func20 (z_0) rfl #[.slice Ao8 x6_1.length co8] rfl (z_13) ?_; (with_reducible refine (impl_clone_byte.calls _ _ x6_1 t283 _ ?side1 ?side2 A5.out).mono ?_); (case side1 => repeat (first | exact (Kd.R_reads' HO_6.out).2.2 | (with_reducible refine Kd.C_alloc ?_ _) | (with_reducible refine Kd.C_drewN ?_ _) | (with_reducible refine Kd.C_drew ?_))); (case side2 => exact (Kd.R_reads' HO_6.out).2.1); rintro e w9 ⟨v284, rfl, ho0, hb⟩; refine ⟨_, rfl, ?_⟩; have n0_ := Aside0.mk (Kd.V_elder' (z_35) (Kd.R_base ho0) hb); have n1_ := Aside0.mk (Kd.R_elder' (z_25) (Kd.R_base ho0) hb); have n2_ := Aside0.mk (Kd.R_elder' (z_54) (Kd.R_base ho0) hb); have n3_ := Aside0.mk (Kd.R_lower (Kd.R_new' (Kd.R_new' (Kd.R_newM (M := fun k_ => (w.heap.size ≤ k_)) ho0 (below_size (z_5)) (fun k_ h_ => h_)) (Kd.R_lt (z_25))) (Kd.R_lt (z_54))) (below_size (z_5))); have n4_ := Aside0.mk (below_step (z_5) hb); clear HO_1; clear HO_6; clear HO282; clear HB; have HO_1 := n0_; have HO_6 := n1_; have HO282 := n2_; have HO285 := n3_; have HB := n4_; clear n0_ n1_ n2_ n3_ n4_; (try clear hb); (try clear hb2); (try clear hk); (try clear hi); (try clear ho0)))
    go_ret2
    exact ⟨_, z_12, by (with_reducible repeat (first | apply Kd.R_alloc | apply Kd.R_drewN | apply Kd.R_drew)); exact Kd.R_mono HO285.out (fun _ hk => hk.1.1.1), z_5⟩
   ·rw [if_neg c4] at H
    have c4b0 : decide (t280 ≤ 0) = false := decide_eq_false c4
    clear c4
    by_cases c10 : x6_1.length + t278.length < 140737488355328
    ·rw [if_pos c10] at H
     have LMc10 := Aside0.mk c10
     clear c10
     obtain ⟨y286, hy286⟩ : ∃ y_ : List Int, y_ = (x6_1 ++ t278) := ⟨_, rfl⟩
     replace H : (if 0 ≤ t280 then (if t280 ≤ (x1_1.length : Int) then ((some (x1_1.drop (t280 : Int).toNat : List Int)).bind fun y289 => (if t279 = true then ((impl_clone_byte.f y286).bind fun t294 => (some (t294, ((y289.length : Int) == 0)))) else (impl_Opened.l0 k1 a0 y289 y286 (wrap64 (x7_1 + 1))))) else (none)) else (none)) = some (r1, r2) := by first | (rw [hy286]; with_reducible exact H) | (have H2_ := (Option.bind_some _ _).symm.trans H; rw [hy286]; with_reducible exact H2_) | (have H2_ := (Option.bind_some _ _).symm.trans H; with_reducible exact H2_) | with_reducible exact H | (rw [hy286]; exact H) | exact H
     have Ny286 := Aside0.mk hy286
     clear hy286
     by_cases c11 : 0 ≤ t280
     ·rw [if_pos c11] at H
      have c11b0 := eq_true c11
      have c11b1 : decide (0 ≤ t280) = true := decide_eq_true c11
      clear c11
      by_cases c12 : t280 ≤ (x1_1.length : Int)
      ·rw [if_pos c12] at H
       have c12b0 := eq_true c12
       have c12b1 : decide (t280 ≤ (x1_1.length : Int)) = true := decide_eq_true c12
       clear c12
       obtain ⟨y289, hy289⟩ : ∃ y_ : List Int, y_ = (x1_1.drop (t280 : Int).toNat) := ⟨_, rfl⟩
       replace H : (if t279 = true then ((impl_clone_byte.f y286).bind fun t294 => (some (t294, ((y289.length : Int) == 0)))) else (impl_Opened.l0 k1 a0 y289 y286 (wrap64 (x7_1 + 1)))) = some (r1, r2) := by first | (rw [hy289]; with_reducible exact H) | (have H2_ := (Option.bind_some _ _).symm.trans H; rw [hy289]; with_reducible exact H2_) | (have H2_ := (Option.bind_some _ _).symm.trans H; with_reducible exact H2_) | with_reducible exact H | (rw [hy289]; exact H) | exact H
       have Ny289 := Aside0.mk hy289
       clear hy289
       by_cases c13 : t279 = true
       ·subst c13
        rw [if_pos rfl] at H
        replace H := Option.bind_eq_some_iff.mp H
        obtain ⟨t294, A140, H⟩ := H
        have A14 := Aside0.mk A140
        clear A140
        simp only [Option.some.injEq, Prod.mk.injEq] at H
        obtain ⟨rfl, rfl⟩ := H
        obtain ⟨Ao15, co15, eo15⟩ := Kd.V_slice HO_1.out
        subst eo15
        try go_wp2_with (first | ((with_reducible refine gate_callee (f := 19) rfl ?_); refine goesL_ (some 17) rfl rfl Try.func19 (z_0) rfl #[.int .i64 a0, .int .i64 x7_1, .slice Ao15 x1_1.length co15] rfl (z_13) ?_; (with_reducible refine (impl_RecordFrom.calls k1 a0 x7_1 _ _ x1_1 t278 true t280 _ ?side1 ?side2 A3.out).mono ?_); (case side1 => exact z_38); (case side2 => exact (Kd.V_reads' HO_1.out).2.1); rintro e w16 ⟨v281, rfl, ho0, hb⟩; refine ⟨_, rfl, ?_⟩; have n0_ := Aside0.mk (Kd.V_elder' (z_35) (Kd.R_base ho0) hb); have n1_ := Aside0.mk (Kd.R_elder' (z_25) (Kd.R_base ho0) hb); have n2_ := Aside0.mk (Kd.R_lower (Kd.R_new' (Kd.R_newM (M := fun k_ => (w.heap.size ≤ k_)) ho0 (below_size (z_5)) (fun k_ h_ => h_)) (Kd.R_lt (z_25))) (below_size (z_5))); have n3_ := Aside0.mk (below_step (z_5) hb); clear HO_1; clear HO_6; clear HB; have HO_1 := n0_; have HO_6 := n1_; have HO282 := n2_; have HB := n3_; clear n0_ n1_ n2_ n3_; (try clear hb); (try clear hb2); (try clear hk); (try clear hi); (try clear ho0)))
        have n0_ := Aside0.mk (Kd.V_drew HO_1.out)
        have n1_ := Aside0.mk (Kd.R_drew HO_6.out)
        have n2_ := Aside0.mk (Kd.R_drew HO282.out)
        have n3_ := Aside0.mk (below_drew1 HB.out)
        clear HO_1
        clear HO_6
        clear HO282
        clear HB
        have HO_1 := n0_
        have HO_6 := n1_
        have HO282 := n2_
        have HB := n3_
        clear n0_ n1_ n2_ n3_
        have q18 : (t280 : Int) ≤ ((x1_1.length : Int) : Int) := of_decide_eq_true (z_3)
        obtain ⟨i018, hi018, _, hsz18, _⟩ := info_parts info5
        have hroom18 : x1_1.length ≤ co15 := (Kd.V_reads' HO_1.out).2.1
        have hC18 : Kd.F (Kd.int .u8) _ _ Ao15 x1_1.length x1_1 := (Kd.V_at (base := w.heap.size) HO_1.out).2.2
        have q018 : (0 : Int) ≤ (t280 : Int) := of_decide_eq_true (z_3)
        have hcut18 := cut_from (P := Try.prog) 22 5 .i64 Try.underlying22 hi018 1 hsz18 Ao15 x1_1.length co15 t280 q018 q18
        have hr18 := Kd.F_cut (m := (t280 : Int).toNat) (c := co15) hC18 (z_2) hroom18
        obtain ⟨A18, hA18⟩ : ∃ A1, A1 = (if co15 = (t280 : Int).toNat then Ao15 else (Ao15 : Option Addr).map (·.add ((t280 : Int).toNat * 1))) := ⟨_, rfl⟩
        obtain ⟨c18, hc18⟩ : ∃ c1, c1 = co15 - (t280 : Int).toNat := ⟨_, rfl⟩
        have hy18 : y289.length = x1_1.length - (t280 : Int).toNat := (by rw [Ny289.out, List.length_drop] <;> omega)
        rw [show (x1_1).drop (t280 : Int).toNat = y289 from Ny289.out.symm] at hr18
        replace hr18 : Kd.F (Kd.int .u8) _ _ A18 y289.length y289 := (by rw [hA18]; exact hr18)
        rw [← hy18, ← hA18, ← hc18] at hcut18
        have HO293 := Aside0.mk (show Kd.V (Kd.int .u8) 5 _ w.heap.size _ (.slice A18 y289.length c18) y289 from Kd.V_mk (by rw [hy18, hc18]; exact Nat.sub_le_sub_right hroom18 _) hr18)
        have HC293 := Aside0.mk (show y289.length ≤ c18 from by rw [hy18, hc18]; exact Nat.sub_le_sub_right hroom18 _)
        clear hr18 hC18 hroom18 hi018 hsz18 hc18
        have KY18 := Aside0.mk hy18
        have KA18 := Aside0.mk hA18
        clear hy18 hA18
        replace q18 := eq_true q18
        obtain ⟨Ao20, co20, eo20⟩ := Kd.R_slice HO282.out
        (first | subst eo20 | (injection eo20 with f1_ f2_ f3_; have f4_ := f1_.symm; have f5_ := f3_.symm; clear f1_ f2_ f3_; subst f4_; subst f5_))
        refine start_ (n := 8) (S := fun w' => True) (ds := []) #[F,F,F,F,F,F,F,F] (z_0) rfl rfl trivial (fun hHeld => ?_); refine with_tabW impl_Opened.tab7 impl_Opened.bits7 (fun HT_ HW_ => ?_)
        generalize w16.drew = w17 at HO_1 HO_6 HO282 HB HO293 hHeld ⊢
        refine pure_ (i := 0) (N := some 25) (v := ?_) (a' := ?_) #[T,F,F,F,F,F,F,F] rfl rfl (any_of HT_.out (z_0)) (fun _ _ _ h => h) (Or.inl ⟨by rfl, ?_⟩) ?_ ?_
        rotate_left
        ·intro w'
         go_simp
         with_reducible rfl
        rotate_left
        ·simp only [Act.put, List.setIfInBounds_toArray, List.set_cons_zero, List.set_cons_succ, i64_w, i32_w]
         rfl
        refine pure_ (i := 1) (N := some 26) (v := ?_) (a' := ?_) #[T,T,F,F,F,F,F,F] rfl rfl (any_of HT_.out (z_0)) (fun _ _ _ h => h) (Or.inl ⟨by rfl, ?_⟩) ?_ ?_
        rotate_left
        ·intro w'
         go_simp
         with_reducible rfl
        rotate_left
        ·simp only [Act.put, List.setIfInBounds_toArray, List.set_cons_zero, List.set_cons_succ, i64_w, i32_w]
         rfl
        refine pure_ (i := 3) (N := some 28) (v := ?_) (a' := ?_) #[T,T,F,T,F,F,F,F] rfl rfl (any_of HT_.out (z_0)) (fun _ _ _ h => h) (Or.inl ⟨by rfl, ?_⟩) ?_ ?_
        rotate_left
        ·intro w'
         go_simp
         with_reducible rfl
        rotate_left
        ·simp only [Act.put, List.setIfInBounds_toArray, List.set_cons_zero, List.set_cons_succ, i64_w, i32_w]
         rfl
        refine pure_ (i := 4) (N := some 29) (v := ?_) (a' := ?_) #[T,T,F,T,T,F,F,F] rfl rfl (any_of HT_.out (z_0)) (fun _ _ _ h => h) (Or.inl ⟨by rfl, ?_⟩) ?_ ?_
        rotate_left
        ·intro w'
         go_simp
         with_reducible rfl
        rotate_left
        ·simp only [Act.put, List.setIfInBounds_toArray, List.set_cons_zero, List.set_cons_succ, i64_w, i32_w]
         rfl
        refine pure_ (i := 5) (N := some 30) (v := ?_) (a' := ?_) #[T,T,F,T,T,T,F,F] rfl rfl (any_of HT_.out (z_0)) (fun _ _ _ h => h) (Or.inl ⟨by rfl, ?_⟩) ?_ ?_
        rotate_left
        ·intro w'
         go_simp
         with_reducible rfl
        rotate_left
        ·simp only [Act.put, List.setIfInBounds_toArray, List.set_cons_zero, List.set_cons_succ, i64_w, i32_w]
         rfl
        refine one_ (i := 2) (N := some 27) #[T,T,T,T,T,T,F,F] rfl rfl (one_of HT_.out (z_0)) (z_15) (fun K hK => ?_)
        refine Kd.R_append_rows_step (Kd.int .u8) (w0 := w) w.heap.size (by rfl) (.tmp 25) (.tmp 26) 22 5 (.int .u8 0) 1 rfl Try.underlying22 info5 rfl (z_15) (z_2) u6 x6_1 t278 _ _ _ (fun k_ => (w.heap.size ≤ k_) ∧ some k_ ≠ (.slice Ao20 t278.length co20 : Value).ownBlock) (fun _ => False) rfl rfl ?aO ?aR (fun _ _ h => h) (fun _ h => h.elim) ?aF ?aB ?aS ?aL ?_
        (case aR => exact z_55)
        (case aB => exact z_24)
        (case aF => exact z_56)
        (case aO => exact z_26)
        (case aS => exact z_27)
        (case aL => have := LMc10.out; omega)
        intro v287 w19 ho hb hg hat
        rw [← Ny286.out] at ho
        have n0_ := Aside0.mk (Kd.V_afterv (ok := (fun k_ => (P1_ k_ ∨ w.heap.size ≤ k_) ∧ some k_ ≠ (.slice Ao20 t278.length co20 : Value).ownBlock)) (z_36) hg hat)
        have n1_ := Aside0.mk (Kd.R_after (ok := (fun k_ => (w.heap.size ≤ k_))) (z_57) hg hat)
        have n2_ := Aside0.mk (Kd.V_afterv (ok := (fun k_ => (P1_ k_ ∨ w.heap.size ≤ k_) ∧ some k_ ≠ (.slice Ao20 t278.length co20 : Value).ownBlock)) (z_58) hg hat)
        have n3_ := Aside0.mk (hb)
        have n4_ := Aside0.mk (ho)
        clear HO_1
        clear HO282
        clear HO293
        clear HB
        clear HO_6
        have HO_1 := n0_
        have HO282 := n1_
        have HO293 := n2_
        have HB := n3_
        have HO288 := n4_
        clear n0_ n1_ n2_ n3_ n4_
        clear ho hb hg hat
        refine hK.out _ _ trivial (fun hHeld => ?_)
        clear hK K
        refine norm_ (a' := ?_) ?_ ?_
        rotate_left
        ·show Act.put _ (some 27) _ = _
         simp only [Act.put, List.setIfInBounds_toArray, List.set_cons_zero, List.set_cons_succ, i64_w, i32_w]
         rfl
        refine pure_ (i := 6) (N := some 6) (v := ?_) (a' := ?_) #[T,T,T,T,T,T,T,F] rfl rfl (any_of HT_.out (z_0)) (fun _ _ _ h => h) (Or.inl ⟨by rfl, ?_⟩) ?_ ?_
        rotate_left
        ·intro w'
         go_simp
         with_reducible rfl
        rotate_left
        ·simp only [Act.put, List.setIfInBounds_toArray, List.set_cons_zero, List.set_cons_succ, i64_w, i32_w]
         rfl
        refine pure_ (i := 7) (N := some 1) (v := ?_) (a' := ?_) #[T,T,T,T,T,T,T,T] rfl rfl (any_of HT_.out (z_0)) (fun _ _ _ h => h) (Or.inl ⟨by rfl, ?_⟩) ?_ ?_
        rotate_left
        ·intro w'
         go_simp
         with_reducible rfl
        rotate_left
        ·simp only [Act.put, List.setIfInBounds_toArray, List.set_cons_zero, List.set_cons_succ, i64_w, i32_w]
         rfl
        refine done_ (done_of HT_.out (z_0)) ?_
        obtain ⟨Ao21, co21, eo21⟩ := Kd.R_slice HO288.out
        subst eo21
        try go_wp2_with (first | ((with_reducible refine gate_callee (f := 20) rfl ?_); refine goesL_ (some 33) rfl rfl Try.func20 (z_0) rfl #[.slice Ao21 y286.length co21] rfl (z_13) ?_; (with_reducible refine (impl_clone_byte.calls _ _ y286 t294 _ ?side1 ?side2 A14.out).mono ?_); (case side1 => repeat (first | exact (Kd.R_reads' HO288.out).2.2 | (with_reducible refine Kd.C_alloc ?_ _) | (with_reducible refine Kd.C_drewN ?_ _) | (with_reducible refine Kd.C_drew ?_))); (case side2 => exact (Kd.R_reads' HO288.out).2.1); rintro e w22 ⟨v295, rfl, ho0, hb⟩; refine ⟨_, rfl, ?_⟩; have n0_ := Aside0.mk (Kd.V_elder' (z_35) (Kd.R_base ho0) hb); have n1_ := Aside0.mk (Kd.R_elder' (z_54) (Kd.R_base ho0) hb); have n2_ := Aside0.mk (Kd.V_elder' (by (with_reducible repeat (first | apply Kd.V_alloc | apply Kd.V_drewN | apply Kd.V_drew)); exact HO293.out) (Kd.R_base ho0) hb); have n3_ := Aside0.mk (Kd.R_elder' (z_59) (Kd.R_base ho0) hb); have n4_ := Aside0.mk (Kd.R_lower (Kd.R_new' (Kd.R_new' (Kd.R_newM (M := fun k_ => (w.heap.size ≤ k_)) ho0 (below_size (z_5)) (fun k_ h_ => h_)) (Kd.R_lt (z_54))) (Kd.R_lt (z_59))) (below_size (z_5))); have n5_ := Aside0.mk (below_step (z_5) hb); clear HO_1; clear HO282; clear HO293; clear HO288; clear HB; have HO_1 := n0_; have HO282 := n1_; have HO293 := n2_; have HO288 := n3_; have HO296 := n4_; have HB := n5_; clear n0_ n1_ n2_ n3_ n4_ n5_; (try clear hb); (try clear hb2); (try clear hk); (try clear hi); (try clear ho0)))
        go_ret2
        exact ⟨_, z_12, by (with_reducible repeat (first | apply Kd.R_alloc | apply Kd.R_drewN | apply Kd.R_drew)); exact Kd.R_mono HO296.out (fun _ hk => hk.1.1.1), z_5⟩
       ·replace c13 := Bool.eq_false_iff.mpr c13
        subst c13
        rw [if_neg (show ¬ (false = true) by decide)] at H
        have H' := Aside0.mk H
        clear H
        obtain ⟨Ao23, co23, eo23⟩ := Kd.V_slice HO_1.out
        subst eo23
        try go_wp2_with (first | ((with_reducible refine gate_callee (f := 19) rfl ?_); refine goesL_ (some 17) rfl rfl Try.func19 (z_0) rfl #[.int .i64 a0, .int .i64 x7_1, .slice Ao23 x1_1.length co23] rfl (z_13) ?_; (with_reducible refine (impl_RecordFrom.calls k1 a0 x7_1 _ _ x1_1 t278 false t280 _ ?side1 ?side2 A3.out).mono ?_); (case side1 => exact z_38); (case side2 => exact (Kd.V_reads' HO_1.out).2.1); rintro e w24 ⟨v281, rfl, ho0, hb⟩; refine ⟨_, rfl, ?_⟩; have n0_ := Aside0.mk (Kd.V_elder' (z_35) (Kd.R_base ho0) hb); have n1_ := Aside0.mk (Kd.R_elder' (z_25) (Kd.R_base ho0) hb); have n2_ := Aside0.mk (Kd.R_lower (Kd.R_new' (Kd.R_newM (M := fun k_ => (w.heap.size ≤ k_)) ho0 (below_size (z_5)) (fun k_ h_ => h_)) (Kd.R_lt (z_25))) (below_size (z_5))); have n3_ := Aside0.mk (below_step (z_5) hb); clear HO_1; clear HO_6; clear HB; have HO_1 := n0_; have HO_6 := n1_; have HO282 := n2_; have HB := n3_; clear n0_ n1_ n2_ n3_; (try clear hb); (try clear hb2); (try clear hk); (try clear hi); (try clear ho0)))
        have n0_ := Aside0.mk (Kd.V_drew HO_1.out)
        have n1_ := Aside0.mk (Kd.R_drew HO_6.out)
        have n2_ := Aside0.mk (Kd.R_drew HO282.out)
        have n3_ := Aside0.mk (below_drew1 HB.out)
        clear HO_1
        clear HO_6
        clear HO282
        clear HB
        have HO_1 := n0_
        have HO_6 := n1_
        have HO282 := n2_
        have HB := n3_
        clear n0_ n1_ n2_ n3_
        have q26 : (t280 : Int) ≤ ((x1_1.length : Int) : Int) := of_decide_eq_true (z_3)
        obtain ⟨i026, hi026, _, hsz26, _⟩ := info_parts info5
        have hroom26 : x1_1.length ≤ co23 := (Kd.V_reads' HO_1.out).2.1
        have hC26 : Kd.F (Kd.int .u8) _ _ Ao23 x1_1.length x1_1 := (Kd.V_at (base := w.heap.size) HO_1.out).2.2
        have q026 : (0 : Int) ≤ (t280 : Int) := of_decide_eq_true (z_3)
        have hcut26 := cut_from (P := Try.prog) 22 5 .i64 Try.underlying22 hi026 1 hsz26 Ao23 x1_1.length co23 t280 q026 q26
        have hr26 := Kd.F_cut (m := (t280 : Int).toNat) (c := co23) hC26 (z_2) hroom26
        obtain ⟨A26, hA26⟩ : ∃ A1, A1 = (if co23 = (t280 : Int).toNat then Ao23 else (Ao23 : Option Addr).map (·.add ((t280 : Int).toNat * 1))) := ⟨_, rfl⟩
        obtain ⟨c26, hc26⟩ : ∃ c1, c1 = co23 - (t280 : Int).toNat := ⟨_, rfl⟩
        have hy26 : y289.length = x1_1.length - (t280 : Int).toNat := (by rw [Ny289.out, List.length_drop] <;> omega)
        rw [show (x1_1).drop (t280 : Int).toNat = y289 from Ny289.out.symm] at hr26
        replace hr26 : Kd.F (Kd.int .u8) _ _ A26 y289.length y289 := (by rw [hA26]; exact hr26)
        rw [← hy26, ← hA26, ← hc26] at hcut26
        have HO293 := Aside0.mk (show Kd.V (Kd.int .u8) 5 _ w.heap.size _ (.slice A26 y289.length c26) y289 from Kd.V_mk (by rw [hy26, hc26]; exact Nat.sub_le_sub_right hroom26 _) hr26)
        have HC293 := Aside0.mk (show y289.length ≤ c26 from by rw [hy26, hc26]; exact Nat.sub_le_sub_right hroom26 _)
        clear hr26 hC26 hroom26 hi026 hsz26 hc26
        have KY26 := Aside0.mk hy26
        have KA26 := Aside0.mk hA26
        clear hy26 hA26
        replace q26 := eq_true q26
        obtain ⟨Ao28, co28, eo28⟩ := Kd.R_slice HO282.out
        (first | subst eo28 | (injection eo28 with f1_ f2_ f3_; have f4_ := f1_.symm; have f5_ := f3_.symm; clear f1_ f2_ f3_; subst f4_; subst f5_))
        refine start_ (n := 8) (S := fun w' => True) (ds := []) #[F,F,F,F,F,F,F,F] (z_0) rfl rfl trivial (fun hHeld => ?_); refine with_tabW impl_Opened.tab7 impl_Opened.bits7 (fun HT_ HW_ => ?_)
        generalize w24.drew = w25 at HO_1 HO_6 HO282 HB HO293 hHeld ⊢
        refine pure_ (i := 0) (N := some 25) (v := ?_) (a' := ?_) #[T,F,F,F,F,F,F,F] rfl rfl (any_of HT_.out (z_0)) (fun _ _ _ h => h) (Or.inl ⟨by rfl, ?_⟩) ?_ ?_
        rotate_left
        ·intro w'
         go_simp
         with_reducible rfl
        rotate_left
        ·simp only [Act.put, List.setIfInBounds_toArray, List.set_cons_zero, List.set_cons_succ, i64_w, i32_w]
         rfl
        refine pure_ (i := 1) (N := some 26) (v := ?_) (a' := ?_) #[T,T,F,F,F,F,F,F] rfl rfl (any_of HT_.out (z_0)) (fun _ _ _ h => h) (Or.inl ⟨by rfl, ?_⟩) ?_ ?_
        rotate_left
        ·intro w'
         go_simp
         with_reducible rfl
        rotate_left
        ·simp only [Act.put, List.setIfInBounds_toArray, List.set_cons_zero, List.set_cons_succ, i64_w, i32_w]
         rfl
        refine pure_ (i := 3) (N := some 28) (v := ?_) (a' := ?_) #[T,T,F,T,F,F,F,F] rfl rfl (any_of HT_.out (z_0)) (fun _ _ _ h => h) (Or.inl ⟨by rfl, ?_⟩) ?_ ?_
        rotate_left
        ·intro w'
         go_simp
         with_reducible rfl
        rotate_left
        ·simp only [Act.put, List.setIfInBounds_toArray, List.set_cons_zero, List.set_cons_succ, i64_w, i32_w]
         rfl
        refine pure_ (i := 4) (N := some 29) (v := ?_) (a' := ?_) #[T,T,F,T,T,F,F,F] rfl rfl (any_of HT_.out (z_0)) (fun _ _ _ h => h) (Or.inl ⟨by rfl, ?_⟩) ?_ ?_
        rotate_left
        ·intro w'
         go_simp
         with_reducible rfl
        rotate_left
        ·simp only [Act.put, List.setIfInBounds_toArray, List.set_cons_zero, List.set_cons_succ, i64_w, i32_w]
         rfl
        refine pure_ (i := 5) (N := some 30) (v := ?_) (a' := ?_) #[T,T,F,T,T,T,F,F] rfl rfl (any_of HT_.out (z_0)) (fun _ _ _ h => h) (Or.inl ⟨by rfl, ?_⟩) ?_ ?_
        rotate_left
        ·intro w'
         go_simp
         with_reducible rfl
        rotate_left
        ·simp only [Act.put, List.setIfInBounds_toArray, List.set_cons_zero, List.set_cons_succ, i64_w, i32_w]
         rfl
        refine one_ (i := 2) (N := some 27) #[T,T,T,T,T,T,F,F] rfl rfl (one_of HT_.out (z_0)) (z_15) (fun K hK => ?_)
        refine Kd.R_append_rows_step (Kd.int .u8) (w0 := w) w.heap.size (by rfl) (.tmp 25) (.tmp 26) 22 5 (.int .u8 0) 1 rfl Try.underlying22 info5 rfl (z_15) (z_2) u6 x6_1 t278 _ _ _ (fun k_ => (w.heap.size ≤ k_) ∧ some k_ ≠ (.slice Ao28 t278.length co28 : Value).ownBlock) (fun _ => False) rfl rfl ?aO ?aR (fun _ _ h => h) (fun _ h => h.elim) ?aF ?aB ?aS ?aL ?_
        (case aR => exact z_55)
        (case aB => exact z_24)
        (case aF => exact z_56)
        (case aO => exact z_26)
        (case aS => exact z_27)
        (case aL => have := LMc10.out; omega)
        intro v287 w27 ho hb hg hat
        rw [← Ny286.out] at ho
        have n0_ := Aside0.mk (Kd.V_afterv (ok := (fun k_ => (P1_ k_ ∨ w.heap.size ≤ k_) ∧ some k_ ≠ (.slice Ao28 t278.length co28 : Value).ownBlock)) (z_36) hg hat)
        have n1_ := Aside0.mk (Kd.R_after (ok := (fun k_ => (w.heap.size ≤ k_))) (z_57) hg hat)
        have n2_ := Aside0.mk (Kd.V_afterv (ok := (fun k_ => (P1_ k_ ∨ w.heap.size ≤ k_) ∧ some k_ ≠ (.slice Ao28 t278.length co28 : Value).ownBlock)) (z_58) hg hat)
        have n3_ := Aside0.mk (hb)
        have n4_ := Aside0.mk (ho)
        clear HO_1
        clear HO282
        clear HO293
        clear HB
        clear HO_6
        have HO_1 := n0_
        have HO282 := n1_
        have HO293 := n2_
        have HB := n3_
        have HO288 := n4_
        clear n0_ n1_ n2_ n3_ n4_
        clear ho hb hg hat
        refine hK.out _ _ trivial (fun hHeld => ?_)
        clear hK K
        refine norm_ (a' := ?_) ?_ ?_
        rotate_left
        ·show Act.put _ (some 27) _ = _
         simp only [Act.put, List.setIfInBounds_toArray, List.set_cons_zero, List.set_cons_succ, i64_w, i32_w]
         rfl
        refine pure_ (i := 6) (N := some 6) (v := ?_) (a' := ?_) #[T,T,T,T,T,T,T,F] rfl rfl (any_of HT_.out (z_0)) (fun _ _ _ h => h) (Or.inl ⟨by rfl, ?_⟩) ?_ ?_
        rotate_left
        ·intro w'
         go_simp
         with_reducible rfl
        rotate_left
        ·simp only [Act.put, List.setIfInBounds_toArray, List.set_cons_zero, List.set_cons_succ, i64_w, i32_w]
         rfl
        refine pure_ (i := 7) (N := some 1) (v := ?_) (a' := ?_) #[T,T,T,T,T,T,T,T] rfl rfl (any_of HT_.out (z_0)) (fun _ _ _ h => h) (Or.inl ⟨by rfl, ?_⟩) ?_ ?_
        rotate_left
        ·intro w'
         go_simp
         with_reducible rfl
        rotate_left
        ·simp only [Act.put, List.setIfInBounds_toArray, List.set_cons_zero, List.set_cons_succ, i64_w, i32_w]
         rfl
        refine done_ (done_of HT_.out (z_0)) ?_
        try go_wp2
        go_roundg k1
        case measure => have := HK1.out; omega
        case rel => exact ⟨(y289), (y286), (wrap64 (x7_1 + 1)), (z_7), H', ⟨z_19⟩, ⟨by (with_reducible repeat (first | apply Kd.V_alloc | apply Kd.V_drewN | apply Kd.V_drew)); exact Kd.V_mono HO293.out (fun _ hk => ⟨hk.1.1, hk.2⟩)⟩, ⟨by (with_reducible repeat (first | apply Kd.R_alloc | apply Kd.R_drewN | apply Kd.R_drew)); exact Kd.R_mono HO288.out (fun _ hk => hk.1)⟩, ⟨z_5⟩⟩
      ·rw [if_neg c12] at H
       exact absurd H (z_1)
     ·rw [if_neg c11] at H
      exact absurd H (z_1)
    ·rw [if_neg c10] at H
     exact absurd H (z_1)

/-! ### laws_begins: function 9 -/
def laws_begins.f (l0 : List Int) (l1 : List Int) : Option (Bool) := if (l0.length : Int) ≤ (l1.length : Int) then (if 0 ≤ (l0.length : Int) then ((laws_sameBytes.f l0 (l1.take ((l0.length : Int) : Int).toNat)).bind fun t298 => (some t298)) else (none)) else (some false)
set_option maxHeartbeats 8000000 in
set_option maxRecDepth 100000 in
theorem laws_begins.calls (A0 : Option Addr) (c0 : Nat) (l0 : List Int) (A1 : Option Addr) (c1 : Nat) (l1 : List Int) (r : Bool) (w : World) (hr0 : Kd.C (Kd.int .u8) w A0 l0.length l0) (hc0 : l0.length ≤ c0) (hr1 : Kd.C (Kd.int .u8) w A1 l1.length l1) (hc1 : l1.length ≤ c1) (h : laws_begins.f l0 l1 = some r) :
  Calls Try.prog 9 #[.slice A0 l0.length c0, .slice A1 l1.length c1] w fun e w' => e = .returned (.bool r) ∧ Drawn0 w w' := by
 have HR0 := Aside0.mk hr0
 have HC0 := Aside0.mk hc0
 clear hr0 hc0
 have HR1 := Aside0.mk hr1
 have HC1 := Aside0.mk hc1
 clear hr1 hc1
 have H : (if (l0.length : Int) ≤ (l1.length : Int) then (if 0 ≤ (l0.length : Int) then ((laws_sameBytes.f l0 (l1.take ((l0.length : Int) : Int).toNat)).bind fun t298 => (some t298)) else (none)) else (some false)) = some r := h
 clear h
 by_cases c3 : (l0.length : Int) ≤ (l1.length : Int)
 ·rw [if_pos c3] at H
  have c3b0 : decide ((l0.length : Int) ≤ (l1.length : Int)) = true := decide_eq_true c3
  have c3b1 : decide (l0.length ≤ l1.length) = true := decide_eq_true (Int.ofNat_le.mp c3)
  clear c3
  by_cases c4 : 0 ≤ (l0.length : Int)
  ·rw [if_pos c4] at H
   have c4b0 := eq_true c4
   have c4b1 : decide (0 ≤ (l0.length : Int)) = true := decide_eq_true c4
   clear c4
   have c5b0 := eq_true (of_decide_eq_true (z_3) : (l0.length : Int) ≤ (l1.length : Int))
   replace H := Option.bind_eq_some_iff.mp H
   obtain ⟨t298, A60, H⟩ := H
   have A6 := Aside0.mk A60
   clear A60
   obtain rfl := Option.some.inj H
   obtain ⟨i07, hi07, _, hsz7, _⟩ := info_parts info5
   obtain ⟨hcut7, hA7, hC7⟩ := print_take_of (P := Try.prog) (Value.int .u8) 0 22 5 .i64 Try.underlying22 hi07 hsz7 A1 c1 l1 (l0.length : Int) (of_decide_eq_true (z_3)) (of_decide_eq_true (z_3)) HC1.out
   have HR297 := Aside0.mk (Kd.C_of_reads (h1 := fun _ => rfl) (hA7 _ (Kd.reads_of_C HR1.out)))
   have HC297 := Aside0.mk hC7
   clear hA7 hC7 hi07 hsz7
   obtain ⟨xs_, hxs_⟩ : ∃ x_ : List Int, x_ = (l1.take ((l0.length : Int) : Int).toNat) := ⟨_, rfl⟩
   rw [← hxs_] at hcut7 HR297 HC297 A6
   clear hxs_
   go_enter Try.func9, Try.ntmps9
   go_wp2_with (first | (go_at_call 6; (with_reducible refine (laws_sameBytes.calls _ _ l0 _ _ xs_ t298 _ ?side1 ?side2 ?side3 ?side4 A6.out).mono ?_); (case side1 => repeat (first | exact HR0.out | (with_reducible refine Kd.C_alloc ?_ _) | (with_reducible refine Kd.C_drewN ?_ _) | (with_reducible refine Kd.C_drew ?_))); (case side2 => exact HC0.out); (case side3 => repeat (first | exact HR297.out | (with_reducible refine Kd.C_alloc ?_ _) | (with_reducible refine Kd.C_drewN ?_ _) | (with_reducible refine Kd.C_drew ?_))); (case side4 => exact HC297.out); rintro e w' ⟨rfl, ⟨nd, rfl⟩⟩))
   go_ret
   exact ⟨z_7, z_23⟩
  ·rw [if_neg c4] at H
   exact absurd H (z_1)
 ·rw [if_neg c3] at H
  have c3b0 : decide ((l0.length : Int) ≤ (l1.length : Int)) = false := decide_eq_false c3
  have c3b1 : decide (l0.length ≤ l1.length) = false := decide_eq_false (fun h => c3 (Int.ofNat_le.mpr h))
  clear c3
  obtain rfl := Option.some.inj H
  go_enter Try.func9, Try.ntmps9
  go_wp2
  go_ret
  exact ⟨z_7, z_23⟩

end Go.Proofs.Ytenphmeikbjimaa.GFnMixed
