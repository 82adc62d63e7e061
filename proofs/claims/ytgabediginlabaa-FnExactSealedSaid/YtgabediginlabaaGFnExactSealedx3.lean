/- What the Go functions that FnExactSealed reaches come to, walked step by step; there is no condition beyond those each statement names. -/
import Derived.Test.YtgabediginlabaaGFnExactSealedx0
import Derived.Test.YtgabediginlabaaGFnExactSealedx2
namespace Go.Proofs.Ytgabediginlabaa.GFnExactSealed
open Go.RowKit Go.Proofs.YtgabediginlabaaU.PrintWords Go.Proofs.YtgabediginlabaaU.PrintLast Go.Proofs.YtgabediginlabaaU.PrintMore
attribute [local go_sem] max2_int min2_int max_two min_two max_three min_three max_four min_four   -- for this text's walks alone
set_option linter.unusedVariables false
set_option linter.unusedSimpArgs false

/-! ### impl_SealOf: function 17 -/
def impl_SealOf.l0 : Nat → Int → Int → List Int → Int → Int → Option (Int)
  | 0, _, _, _, _, _ => none
  | k + 1, x0, x9, x25, x26, x27 => if x27 < x26 then (if 0 ≤ x27 then (if x27 < (x25.length : Int) then (impl_SealOf.l0 k x0 (Int.tmod (wrap64 ((wrap64 ((wrap64 (x9 * x0)) + (wrap64 (rd x25 x27)))) + 1)) 65521) x25 x26 (wrap64 (x27 + 1))) else (none)) else (none)) else (some (Int.tmod (wrap64 (x9 * x0)) 65521))
def impl_SealOf.f (k : Nat) (a0 : Int) (a1 : Int) (l2 : List Int) (a3 : Bool) : Option (Int) := (impl_sealOk.f a0 a1 l2).bind fun t172 => (if t172 = true then ((some (([] : List Int) : List Int)).bind fun y173 => (if y173.length + l2.length < 140737488355328 then ((some (y173 ++ l2 : List Int)).bind fun y176 => ((impl_bit.f a3 1).bind fun t179 => (if y176.length < 140737488355328 then ((some (y176 ++ [(t179) % 256] : List Int)).bind fun y180 => (impl_SealOf.l0 k a0 (wrap64 (a1 + 1)) y180 (y180.length : Int) 0)) else (none)))) else (none))) else (some (-1)))
theorem impl_SealOf.mono_l : ∀ k, (∀ y0 y1 y2 y3 y4, LeO (impl_SealOf.l0 k y0 y1 y2 y3 y4) (impl_SealOf.l0 (k + 1) y0 y1 y2 y3 y4))
  | 0 => fun _ _ _ _ _ r h => by simp [impl_SealOf.l0] at h
  | k + 1 => by
    have ih0 := impl_SealOf.mono_l k
    · intro y0 y1 y2 y3 y4
      unfold impl_SealOf.l0
      repeat' first
      | (with_reducible exact ih0 _ _ _ _ _)
      | (with_reducible exact LeO.refl _)
      | (with_reducible exact LeO.none _)
      | (with_reducible refine LeO.ite ?_ ?_)
      | (with_reducible refine LeO.bind ?_ (fun _ => ?_))
      | exact ih0 _ _ _ _ _
      | exact LeO.none _
      | refine LeO.ite ?_ ?_
      | refine LeO.bind ?_ (fun _ => ?_)
theorem impl_SealOf.mono : ∀ a0 a1 a2 a3 k, LeO (impl_SealOf.f k a0 a1 a2 a3) (impl_SealOf.f (k + 1) a0 a1 a2 a3) := by
  intro a0 a1 a2 a3 k
  have ih0 := impl_SealOf.mono_l k
  unfold impl_SealOf.f
  repeat' first
      | (with_reducible exact ih0 _ _ _ _ _)
      | (with_reducible exact LeO.refl _)
      | (with_reducible exact LeO.none _)
      | (with_reducible refine LeO.ite ?_ ?_)
      | (with_reducible refine LeO.bind ?_ (fun _ => ?_))
      | exact ih0 _ _ _ _ _
      | exact LeO.none _
      | refine LeO.ite ?_ ?_
      | refine LeO.bind ?_ (fun _ => ?_)
set_option maxHeartbeats 8000000 in
set_option maxRecDepth 100000 in
theorem impl_SealOf.calls (k : Nat) (a0 : Int) (a1 : Int) (A2 : Option Addr) (c2 : Nat) (l2 : List Int) (a3 : Bool) (r : Int) (w : World) (hr2 : Kd.C (Kd.int .u8) w A2 l2.length l2) (hc2 : l2.length ≤ c2) (h : impl_SealOf.f k a0 a1 l2 a3 = some r) :
    Calls Try.prog 17 #[.int .i64 a0, .int .i64 a1, .slice A2 l2.length c2, .bool a3] w fun e w' => e = .returned (.int .i64 r) ∧ Below w.heap.size w w' := by
  have HR2 := Aside0.mk hr2
  have HC2 := Aside0.mk hc2
  clear hr2 hc2
  have HB := Aside0.mk (Below.refl w.heap.size w)
  have H : ((impl_sealOk.f a0 a1 l2).bind fun t172 => (if t172 = true then ((some (([] : List Int) : List Int)).bind fun y173 => (if y173.length + l2.length < 140737488355328 then ((some (y173 ++ l2 : List Int)).bind fun y176 => ((impl_bit.f a3 1).bind fun t179 => (if y176.length < 140737488355328 then ((some (y176 ++ [(t179) % 256] : List Int)).bind fun y180 => (impl_SealOf.l0 k a0 (wrap64 (a1 + 1)) y180 (y180.length : Int) 0)) else (none)))) else (none))) else (some (-1)))) = some r := h
  clear h
  replace H := Option.bind_eq_some_iff.mp H
  obtain ⟨t172, A50, H⟩ := H
  replace H : (if t172 = true then ((some (([] : List Int) : List Int)).bind fun y173 => (if y173.length + l2.length < 140737488355328 then ((some (y173 ++ l2 : List Int)).bind fun y176 => ((impl_bit.f a3 1).bind fun t179 => (if y176.length < 140737488355328 then ((some (y176 ++ [(t179) % 256] : List Int)).bind fun y180 => (impl_SealOf.l0 k a0 (wrap64 (a1 + 1)) y180 (y180.length : Int) 0)) else (none)))) else (none))) else (some (-1))) = some r := H
  have A5 := Aside0.mk A50
  clear A50
  by_cases c6 : t172 = true
  · subst c6
    have H1 : ((some (([] : List Int) : List Int)).bind fun y173 => (if y173.length + l2.length < 140737488355328 then ((some (y173 ++ l2 : List Int)).bind fun y176 => ((impl_bit.f a3 1).bind fun t179 => (if y176.length < 140737488355328 then ((some (y176 ++ [(t179) % 256] : List Int)).bind fun y180 => (impl_SealOf.l0 k a0 (wrap64 (a1 + 1)) y180 (y180.length : Int) 0)) else (none)))) else (none))) = some r := by rw [if_pos rfl] at H; exact H
    clear H
    have H := H1
    clear H1
    obtain ⟨y173, hy173⟩ : ∃ y_ : List Int, y_ = (([] : List Int)) := ⟨_, rfl⟩
    replace H : (if y173.length + l2.length < 140737488355328 then ((some (y173 ++ l2 : List Int)).bind fun y176 => ((impl_bit.f a3 1).bind fun t179 => (if y176.length < 140737488355328 then ((some (y176 ++ [(t179) % 256] : List Int)).bind fun y180 => (impl_SealOf.l0 k a0 (wrap64 (a1 + 1)) y180 (y180.length : Int) 0)) else (none)))) else (none)) = some r := by first | (rw [hy173]; with_reducible exact H) | (have H2_ := (Option.bind_some _ _).symm.trans H; rw [hy173]; with_reducible exact H2_) | (have H2_ := (Option.bind_some _ _).symm.trans H; with_reducible exact H2_) | with_reducible exact H | (rw [hy173]; exact H) | exact H
    have Ny173 := Aside0.mk hy173
    clear hy173
    by_cases c7 : y173.length + l2.length < 140737488355328
    · rw [if_pos c7] at H
      have LMc7 := Aside0.mk c7
      clear c7
      obtain ⟨y176, hy176⟩ : ∃ y_ : List Int, y_ = (y173 ++ l2) := ⟨_, rfl⟩
      replace H : ((impl_bit.f a3 1).bind fun t179 => (if y176.length < 140737488355328 then ((some (y176 ++ [(t179) % 256] : List Int)).bind fun y180 => (impl_SealOf.l0 k a0 (wrap64 (a1 + 1)) y180 (y180.length : Int) 0)) else (none))) = some r := by first | (rw [hy176]; with_reducible exact H) | (have H2_ := (Option.bind_some _ _).symm.trans H; rw [hy176]; with_reducible exact H2_) | (have H2_ := (Option.bind_some _ _).symm.trans H; with_reducible exact H2_) | with_reducible exact H | (rw [hy176]; exact H) | exact H
      have Ny176 := Aside0.mk hy176
      clear hy176
      replace H := Option.bind_eq_some_iff.mp H
      obtain ⟨t179, A80, H⟩ := H
      replace H : (if y176.length < 140737488355328 then ((some (y176 ++ [(t179) % 256] : List Int)).bind fun y180 => (impl_SealOf.l0 k a0 (wrap64 (a1 + 1)) y180 (y180.length : Int) 0)) else (none)) = some r := H
      have A8 := Aside0.mk A80
      clear A80
      by_cases c9 : y176.length < 140737488355328
      · rw [if_pos c9] at H
        have LMc9 := Aside0.mk c9
        clear c9
        obtain ⟨y180, hy180⟩ : ∃ y_ : List Int, y_ = (y176 ++ [(t179) % 256]) := ⟨_, rfl⟩
        replace H : (impl_SealOf.l0 k a0 (wrap64 (a1 + 1)) y180 (y180.length : Int) 0) = some r := by first | (rw [hy180]; with_reducible exact H) | (have H2_ := (Option.bind_some _ _).symm.trans H; rw [hy180]; with_reducible exact H2_) | (have H2_ := (Option.bind_some _ _).symm.trans H; with_reducible exact H2_) | with_reducible exact H | (rw [hy180]; exact H) | exact H
        have Ny180 := Aside0.mk hy180
        clear hy180
        have H' := Aside0.mk H
        clear H
        have Hy_ := Aside0.mk (show y176 = l2 by rw [Ny176.out, Ny173.out]; rfl)
        have HL63_ := Aside0.mk (show l2.length ≤ 9223372036854775807 by have := LMc7.out; omega)
        go_enter Try.func17, Try.ntmps17
        go_wp2_with (first | ((with_reducible refine gate_callee (f := 42) rfl ?_); refine goesL_ (some 15) rfl rfl Try.func42 (by kernel_rfl) rfl #[.int .i64 a0, .int .i64 a1, .slice A2 l2.length c2] rfl (by (try simp only [List.map_toArray, List.map_cons, List.map_nil]); first | done | rfl | (simp only [List.length_drop, List.length_take]; rfl)) ?_; (with_reducible refine (impl_sealOk.calls a0 a1 _ _ l2 true _ ?side1 ?side2 A5.out).mono ?_); (case side1 => repeat (first | exact HR2.out | (with_reducible refine Kd.C_alloc ?_ _) | (with_reducible refine Kd.C_drewN ?_ _) | (with_reducible refine Kd.C_drew ?_))); (case side2 => exact HC2.out); rintro e w' ⟨rfl, ⟨nd, rfl⟩⟩; refine ⟨_, rfl, ?_⟩) | ((with_reducible refine gate_callee (f := 44) rfl ?_); refine goesL_ (some 22) rfl rfl Try.func44 (by kernel_rfl) rfl #[.bool a3, .int .i64 1] rfl (by (try simp only [List.map_toArray, List.map_cons, List.map_nil]); first | done | rfl | (simp only [List.length_drop, List.length_take]; rfl)) ?_; (with_reducible refine (impl_bit.calls a3 1 t179 _ A8.out).mono ?_); rintro e w' ⟨rfl, ⟨nd, rfl⟩⟩; refine ⟨_, rfl, ?_⟩) | (go_at_call 43; (with_reducible refine (slices_Clip_43.calls _ _ _ _ HC2.out HL63_.out).mono ?_); rintro e w' ⟨rfl, hw_⟩; subst hw_) | ((with_reducible refine gate_builtin (b := .append) (xs := #[.tmp 20, .tmp 24]) rfl ?_); at_builtin; refine Kd.R_append_read (Kd.int .u8) (w0 := w) w.heap.size rfl (.tmp 20) (.tmp 24) 22 5 (.int .u8 0) 1 rfl Try.underlying22 info5 rfl (by decide) (by omega) A2 l2.length y176 ((t179) % 256) [.int .u8 ((t179) % 256)] (fun _ => True) (fun _ => False) rfl rfl ?aP (fun _ hk => hk.elim) ?aF ?aC (fun _ _ h_ => h_) ?aB ?aS ?aL ?_; (case aP => exact rfl); (case aB => exact (by repeat (first | (with_reducible first | exact HB.out | apply below_alloc | apply pw_below_drewN | apply below_drew1) | exact HB.out))); (case aF => exact (fun _ _ => trivial)); (case aC => rw [Hy_.out]; repeat (first | exact (Kd.C_below HR2.out HB.out) | (with_reducible refine Kd.C_alloc ?_ _) | (with_reducible refine Kd.C_drewN ?_ _) | (with_reducible refine Kd.C_drew ?_))); (case aS => exact (below_size (by repeat (first | (with_reducible first | exact HB.out | apply below_alloc | apply pw_below_drewN | apply below_drew1) | exact HB.out)))); (case aL => have := LMc9.out; omega); intro v181 w13 ho hb; rw [← Ny180.out] at ho; have n0_ := Aside0.mk (hb); have n1_ := Aside0.mk (ho); clear HB; have HB := n0_; have HO182 := n1_; clear n0_ n1_; clear ho hb; obtain ⟨Ao14, co14, eo14⟩ := Kd.R_slice HO182.out; subst eo14))
        go_loopg [9, 27] k (fun kq v9 v27 w' => ∃ (x9_1 : Int) (x27_1 : Int), v9 = .int .i64 x9_1 ∧ v27 = .int .i64 x27_1 ∧ Aside0 (impl_SealOf.l0 kq a0 x9_1 y180 (y180.length : Int) x27_1 = some r) ∧ Aside0 (kq ≤ k) ∧ Aside0 (Kd.R (Kd.int .u8) 5 w' w.heap.size (fun _ => True) (.slice Ao14 y180.length co14) y180) ∧ Aside0 (Below w.heap.size w w'))
        case atStart => exact ⟨(wrap64 (a1 + 1)), (0), (by first | rfl | (simp; done) | (simp [*]; done)), (by first | rfl | (simp; done) | (simp [*]; done)), H', ⟨Nat.le_refl _⟩, ⟨by (with_reducible repeat (first | apply Kd.R_alloc | apply Kd.R_drewN | apply Kd.R_drew)); exact HO182.out⟩, ⟨by repeat (first | (with_reducible first | exact HB.out | apply below_alloc | apply pw_below_drewN | apply below_drew1) | exact HB.out)⟩⟩
        case round =>
          clear H'
          try clear c1
          try clear c2
          try clear p2
          try clear c4
          try clear c6
          try clear p6
          try clear c7
          try clear c9
          obtain ⟨x9_1, x27_1, rfl, rfl, HA, HK1, HO_25, HB⟩ := hrel
          cases gk with
          | zero => exact absurd HA.out (by simp [impl_SealOf.l0])
          | succ k1 =>
            have H := HA.out
            clear HA
            simp only [impl_SealOf.l0] at H
            by_cases c15 : x27_1 < (y180.length : Int)
            · rw [if_pos c15] at H
              have c15b0 : decide (x27_1 < (y180.length : Int)) = true := decide_eq_true c15
              clear c15
              by_cases c16 : 0 ≤ x27_1
              · rw [if_pos c16] at H
                have c16b0 : decide (0 ≤ x27_1) = true := decide_eq_true c16
                clear c16
                by_cases c17 : x27_1 < (y180.length : Int)
                · rw [if_pos c17] at H
                  have c17b0 : decide (x27_1 < (y180.length : Int)) = true := decide_eq_true c17
                  clear c17
                  have H' := Aside0.mk H
                  clear H
                  have p183 : 0 ≤ (x27_1 : Int) := of_decide_eq_true (by first | (with_reducible assumption) | assumption)
                  have q183 : x27_1 < (y180.length : Int) := of_decide_eq_true (by first | (with_reducible assumption) | assumption)
                  obtain ⟨ad183, e183, hx183_0⟩ := Kd.at_int (Kd.R_reads' HO_25.out).2.2 x27_1 p183 q183
                  cases e183
                  replace p183 := eq_true p183
                  replace q183 := eq_true q183
                  go_wp2
                  go_roundg k1
                  case measure => have := HK1.out; omega
                  case rel => exact ⟨(Int.tmod (wrap64 ((wrap64 ((wrap64 (x9_1 * a0)) + (wrap64 (rd y180 x27_1)))) + 1)) 65521), (wrap64 (x27_1 + 1)), (by first | rfl | (simp; done) | (simp [*]; done)), (by first | rfl | (simp; done) | (simp [*]; done)), H', ⟨by have := HK1.out; omega⟩, ⟨by (with_reducible repeat (first | apply Kd.R_alloc | apply Kd.R_drewN | apply Kd.R_drew)); exact HO_25.out⟩, ⟨by repeat (first | (with_reducible first | exact HB.out | apply below_alloc | apply pw_below_drewN | apply below_drew1) | exact HB.out)⟩⟩
                · rw [if_neg c17] at H
                  exact absurd H (by simp)
              · rw [if_neg c16] at H
                exact absurd H (by simp)
            · rw [if_neg c15] at H
              have c15b0 : decide (x27_1 < (y180.length : Int)) = false := decide_eq_false c15
              clear c15
              obtain rfl := Option.some.inj H
              go_wp2
              go_ret
              exact ⟨by first | rfl | (simp [errW_none, errW_some] <;> rfl) | (simp [*, errW_none, errW_some] <;> rfl), by repeat (first | (with_reducible first | exact HB.out | apply below_alloc | apply pw_below_drewN | apply below_drew1) | exact HB.out)⟩
      · rw [if_neg c9] at H
        exact absurd H (by simp)
    · rw [if_neg c7] at H
      exact absurd H (by simp)
  · replace c6 := Bool.eq_false_iff.mpr c6
    subst c6
    have H1 : (some (-1)) = some r := by rw [if_neg (show ¬ (false = true) by decide)] at H; exact H
    clear H
    have H := H1
    clear H1
    obtain rfl := Option.some.inj H
    go_enter Try.func17, Try.ntmps17
    go_wp2_with (first | ((with_reducible refine gate_callee (f := 42) rfl ?_); refine goesL_ (some 15) rfl rfl Try.func42 (by kernel_rfl) rfl #[.int .i64 a0, .int .i64 a1, .slice A2 l2.length c2] rfl (by (try simp only [List.map_toArray, List.map_cons, List.map_nil]); first | done | rfl | (simp only [List.length_drop, List.length_take]; rfl)) ?_; (with_reducible refine (impl_sealOk.calls a0 a1 _ _ l2 false _ ?side1 ?side2 A5.out).mono ?_); (case side1 => repeat (first | exact HR2.out | (with_reducible refine Kd.C_alloc ?_ _) | (with_reducible refine Kd.C_drewN ?_ _) | (with_reducible refine Kd.C_drew ?_))); (case side2 => exact HC2.out); rintro e w' ⟨rfl, ⟨nd, rfl⟩⟩; refine ⟨_, rfl, ?_⟩))
    go_ret
    exact ⟨by first | rfl | (simp [errW_none, errW_some] <;> rfl) | (simp [*, errW_none, errW_some] <;> rfl), by repeat (first | (with_reducible first | exact HB.out | apply below_alloc | apply pw_below_drewN | apply below_drew1) | exact HB.out)⟩

/-! ### slices_Grow_59: function 59 -/
set_option maxHeartbeats 8000000 in
set_option maxRecDepth 100000 in
theorem slices_Grow_59.calls (n : Int) (w : World) (h0 : 0 ≤ n) (h1 : n ≤ 140737488355328) :
    Calls Try.prog 59 #[.slice none 0 0, .int .i64 n] w fun e w' => ∃ v0_ : Value, e = .returned v0_ ∧ Kd.R (Kd.int .u8) 5 w' w.heap.size (fun _ => True) v0_ ([] : List Int) ∧ Below w.heap.size w w' := by
  have HB := Aside0.mk (Below.refl w.heap.size w)
  by_cases hz : n = 0
  · subst hz
    go_enter Try.func59, Try.ntmps59
    go_wp2
    go_ret
    exact ⟨_, rfl, Kd.R_nil _ _ _ _ _, HB.out⟩
  · have HL := Aside0.mk h1
    have HZ := Aside0.mk h0
    have d1 : decide (n < 0) = false := decide_eq_false (by omega)
    have d2 : decide (0 < n) = true := decide_eq_true (by omega)
    clear hz
    go_enter Try.func59, Try.ntmps59
    go_wp2_with (first | ((with_reducible refine gate_builtin (b := .append) (xs := #[.tmp 20, .tmp 21]) rfl ?_); at_builtin; refine Kd.R_append_zeros (Kd.int .u8) (w0 := w) w.heap.size rfl (.tmp 20) (.tmp 21) 22 3 5 (.int .u8 0) 1 rfl Try.underlying22 Try.underlying3 info5 rfl (by decide) (by omega) (.slice none 0 0) ([] : List Int) 0 n (fun _ => True) rfl rfl rfl (fun _ _ => trivial) (Kd.R_nil _ _ _ _ _) HZ.out HB.out (Nat.le_refl _) (by have := HL.out; simp; omega) ?_; intro v1 w1 ho hb hg hat; have n0_ := Aside0.mk hb; have n1_ := Aside0.mk ho; clear HB; have HB := n0_; have HO := n1_; clear n0_ n1_; clear ho hb hg hat; obtain ⟨Ax_, cx_, ex_⟩ := Kd.R_slice HO.out; subst ex_))
    go_ret
    exact ⟨_, rfl, Kd.R_take HO.out (Nat.zero_le _), HB.out⟩

/-! ### slices_Concat_byte_byte: function 51 -/
mutual
def slices_Concat_byte_byte.l0 : Nat → List (List Int) → Int → List (List Int) → Int → Int → Option (List Int)
  | 0, _, _, _, _, _ => none
  | k + 1, x0, x3, x9, x10, x11 => if x11 < x10 then (if 0 ≤ x11 then (if x11 < (x9.length : Int) then (if (wrap64 (x3 + ((rd_L1 x9 x11).length : Int))) < 0 then (if 0 = 0 then (none) else (slices_Concat_byte_byte.l0 k x0 (wrap64 (x3 + ((rd_L1 x9 x11).length : Int))) x9 x10 (wrap64 (x11 + 1)))) else (slices_Concat_byte_byte.l0 k x0 (wrap64 (x3 + ((rd_L1 x9 x11).length : Int))) x9 x10 (wrap64 (x11 + 1)))) else (none)) else (none)) else (if 0 ≤ x3 then (if x3 ≤ 140737488355328 then (slices_Concat_byte_byte.l1 k (([] : List Int)) x0 (x0.length : Int) 0) else (none)) else (none))
def slices_Concat_byte_byte.l1 : Nat → List Int → List (List Int) → Int → Int → Option (List Int)
  | 0, _, _, _, _ => none
  | k + 1, x6, x25, x26, x27 => if x27 < x26 then (if 0 ≤ x27 then (if x27 < (x25.length : Int) then (if x6.length + (rd_L1 x25 x27).length < 140737488355328 then (slices_Concat_byte_byte.l1 k (x6 ++ (rd_L1 x25 x27)) x25 x26 (wrap64 (x27 + 1))) else (none)) else (none)) else (none)) else (some x6)
end
def slices_Concat_byte_byte.f (k : Nat) (l0 : List (List Int)) : Option (List Int) := slices_Concat_byte_byte.l0 k l0 0 l0 (l0.length : Int) 0
theorem slices_Concat_byte_byte.mono_l : ∀ k, (∀ y0 y1 y2 y3 y4, LeO (slices_Concat_byte_byte.l0 k y0 y1 y2 y3 y4) (slices_Concat_byte_byte.l0 (k + 1) y0 y1 y2 y3 y4)) ∧ (∀ y0 y1 y2 y3, LeO (slices_Concat_byte_byte.l1 k y0 y1 y2 y3) (slices_Concat_byte_byte.l1 (k + 1) y0 y1 y2 y3))
  | 0 => ⟨fun _ _ _ _ _ r h => by simp [slices_Concat_byte_byte.l0] at h, fun _ _ _ _ r h => by simp [slices_Concat_byte_byte.l1] at h⟩
  | k + 1 => by
    obtain ⟨ih0, ih1⟩ := slices_Concat_byte_byte.mono_l k
    refine ⟨?_, ?_⟩
    · intro y0 y1 y2 y3 y4
      unfold slices_Concat_byte_byte.l0
      repeat' first
      | (with_reducible exact ih0 _ _ _ _ _)
      | (with_reducible exact ih1 _ _ _ _)
      | (with_reducible exact LeO.refl _)
      | (with_reducible exact LeO.none _)
      | (with_reducible refine LeO.ite ?_ ?_)
      | (with_reducible refine LeO.bind ?_ (fun _ => ?_))
      | exact ih0 _ _ _ _ _
      | exact ih1 _ _ _ _
      | exact LeO.none _
      | refine LeO.ite ?_ ?_
      | refine LeO.bind ?_ (fun _ => ?_)
    · intro y0 y1 y2 y3
      unfold slices_Concat_byte_byte.l1
      repeat' first
      | (with_reducible exact ih0 _ _ _ _ _)
      | (with_reducible exact ih1 _ _ _ _)
      | (with_reducible exact LeO.refl _)
      | (with_reducible exact LeO.none _)
      | (with_reducible refine LeO.ite ?_ ?_)
      | (with_reducible refine LeO.bind ?_ (fun _ => ?_))
      | exact ih0 _ _ _ _ _
      | exact ih1 _ _ _ _
      | exact LeO.none _
      | refine LeO.ite ?_ ?_
      | refine LeO.bind ?_ (fun _ => ?_)
theorem slices_Concat_byte_byte.mono : ∀ a0 k, LeO (slices_Concat_byte_byte.f k a0) (slices_Concat_byte_byte.f (k + 1) a0) := by
  intro a0 k
  obtain ⟨ih0, ih1⟩ := slices_Concat_byte_byte.mono_l k
  unfold slices_Concat_byte_byte.f
  repeat' first
      | (with_reducible exact ih0 _ _ _ _ _)
      | (with_reducible exact ih1 _ _ _ _)
      | (with_reducible exact LeO.refl _)
      | (with_reducible exact LeO.none _)
      | (with_reducible refine LeO.ite ?_ ?_)
      | (with_reducible refine LeO.bind ?_ (fun _ => ?_))
      | exact ih0 _ _ _ _ _
      | exact ih1 _ _ _ _
      | exact LeO.none _
      | refine LeO.ite ?_ ?_
      | refine LeO.bind ?_ (fun _ => ?_)
set_option maxHeartbeats 8000000 in
set_option maxRecDepth 100000 in
theorem slices_Concat_byte_byte.calls (k : Nat) (A0 : Option Addr) (c0 : Nat) (l0 : List (List Int)) (r : List Int) (w : World) (hr0 : Kd.C (Kd.slice 5 (Kd.int .u8)) w A0 l0.length l0) (hc0 : l0.length ≤ c0) (h : slices_Concat_byte_byte.f k l0 = some r) :
    Calls Try.prog 51 #[.slice A0 l0.length c0] w fun e w' => ∃ v0_ : Value, e = .returned (v0_) ∧ Kd.R (Kd.int .u8) 5 w' w.heap.size (fun _ => True) v0_ r ∧ Below w.heap.size w w' := by
  have HR0 := Aside0.mk hr0
  have HC0 := Aside0.mk hc0
  clear hr0 hc0
  have HB := Aside0.mk (Below.refl w.heap.size w)
  have H : (slices_Concat_byte_byte.l0 k l0 0 l0 (l0.length : Int) 0) = some r := h
  clear h
  have H' := Aside0.mk H
  clear H
  go_enter Try.func51, Try.ntmps51
  go_wp2
  go_loopg [3, 11] k (fun kq v3 v11 w' => ∃ (x3_1 : Int) (x11_1 : Int), v3 = .int .i64 x3_1 ∧ v11 = .int .i64 x11_1 ∧ Aside0 (slices_Concat_byte_byte.l0 kq l0 x3_1 l0 (l0.length : Int) x11_1 = some r) ∧ Aside0 (kq ≤ k) ∧ Aside0 (Below w.heap.size w w'))
  case atStart => exact ⟨(0), (0), (by first | rfl | (simp; done) | (simp [*]; done)), (by first | rfl | (simp; done) | (simp [*]; done)), H', ⟨Nat.le_refl _⟩, ⟨by repeat (first | (with_reducible first | exact HB.out | apply below_alloc | apply pw_below_drewN | apply below_drew1) | exact HB.out)⟩⟩
  case round =>
    clear H'
    obtain ⟨x3_1, x11_1, rfl, rfl, HA, HK1, HB⟩ := hrel
    cases gk with
    | zero => exact absurd HA.out (by simp [slices_Concat_byte_byte.l0])
    | succ k1 =>
      have H := HA.out
      clear HA
      simp only [slices_Concat_byte_byte.l0] at H
      by_cases c2 : x11_1 < (l0.length : Int)
      · rw [if_pos c2] at H
        have c2b0 : decide (x11_1 < (l0.length : Int)) = true := decide_eq_true c2
        clear c2
        by_cases c3 : 0 ≤ x11_1
        · rw [if_pos c3] at H
          have c3b0 : decide (0 ≤ x11_1) = true := decide_eq_true c3
          clear c3
          by_cases c4 : x11_1 < (l0.length : Int)
          · rw [if_pos c4] at H
            have c4b0 : decide (x11_1 < (l0.length : Int)) = true := decide_eq_true c4
            clear c4
            by_cases c5 : (wrap64 (x3_1 + ((rd_L1 l0 x11_1).length : Int))) < 0
            · rw [if_pos c5] at H
              exact absurd H (by simp)
            · rw [if_neg c5] at H
              have c5b0 : decide ((wrap64 (x3_1 + ((rd_L1 l0 x11_1).length : Int))) < 0) = false := decide_eq_false c5
              clear c5
              have H' := Aside0.mk H
              clear H
              have p184 : 0 ≤ (x11_1 : Int) := of_decide_eq_true (by first | (with_reducible assumption) | assumption)
              have q184 : x11_1 < (l0.length : Int) := of_decide_eq_true (by first | (with_reducible assumption) | assumption)
              obtain ⟨ad184, A184_0, c184_0, e184, hx184_0, hl184_0, hi184_0⟩ := at_L1 HR0.out x11_1 p184 q184
              cases e184
              replace hx184_0 := (HB.out.cell (World.block_lt_of_cell? w _ hx184_0)).trans hx184_0
              have HR184_0 := Aside0.mk hi184_0
              have HC184_0 := Aside0.mk hl184_0
              clear hi184_0 hl184_0
              replace p184 := eq_true p184
              replace q184 := eq_true q184
              go_wp2
              go_roundg k1
              case measure => have := HK1.out; omega
              case rel => exact ⟨(wrap64 (x3_1 + ((rd_L1 l0 x11_1).length : Int))), (wrap64 (x11_1 + 1)), (by first | rfl | (simp; done) | (simp [*]; done)), (by first | rfl | (simp; done) | (simp [*]; done)), H', ⟨by have := HK1.out; omega⟩, ⟨by repeat (first | (with_reducible first | exact HB.out | apply below_alloc | apply pw_below_drewN | apply below_drew1) | exact HB.out)⟩⟩
          · rw [if_neg c4] at H
            exact absurd H (by simp)
        · rw [if_neg c3] at H
          exact absurd H (by simp)
      · rw [if_neg c2] at H
        obtain ⟨HZ1, HZ2, H⟩ : Aside0 (0 ≤ x3_1) ∧ Aside0 (x3_1 ≤ 140737488355328) ∧ (slices_Concat_byte_byte.l1 k1 (([] : List Int)) l0 (l0.length : Int) 0) = some r := by
          by_cases z1 : 0 ≤ x3_1
          · rw [if_pos z1] at H
            by_cases z2 : x3_1 ≤ 140737488355328
            · rw [if_pos z2] at H
              exact ⟨⟨z1⟩, ⟨z2⟩, H⟩
            · rw [if_neg z2] at H; cases H
          · rw [if_neg z1] at H; cases H
        have c2b0 : decide (x11_1 < (l0.length : Int)) = false := decide_eq_false c2
        clear c2
        obtain ⟨y185, hy185⟩ : ∃ y_ : List Int, y_ = (([] : List Int)) := ⟨_, rfl⟩
        replace H : (slices_Concat_byte_byte.l1 k1 y185 l0 (l0.length : Int) 0) = some r := by first | (rw [hy185]; with_reducible exact H) | (have H2_ := (Option.bind_some _ _).symm.trans H; rw [hy185]; with_reducible exact H2_) | (have H2_ := (Option.bind_some _ _).symm.trans H; with_reducible exact H2_) | with_reducible exact H | (rw [hy185]; exact H) | exact H
        have Ny185 := Aside0.mk hy185
        clear hy185
        have H' := Aside0.mk H
        clear H
        go_wp2_with (first | (go_at_call 59; (with_reducible refine (slices_Grow_59.calls x3_1 _ HZ1.out HZ2.out).mono ?_); rintro e w7 ⟨v186, rfl, ho0, hb⟩; rw [← Ny185.out] at ho0; have n0_ := Aside0.mk (Kd.R_lower ho0 (below_size (by repeat (first | (with_reducible first | exact HB.out | apply below_alloc | apply pw_below_drewN | apply below_drew1) | exact HB.out)))); have n1_ := Aside0.mk (below_step (by repeat (first | (with_reducible first | exact HB.out | apply below_alloc | apply pw_below_drewN | apply below_drew1) | exact HB.out)) hb); clear HB; have HO187 := n0_; have HB := n1_; clear n0_ n1_; clear hb ho0))
        go_loopg [6, 27] k1 (fun kq v6 v27 w' => ∃ (x6_2 : List Int) (x27_2 : Int), v27 = .int .i64 x27_2 ∧ Aside0 (slices_Concat_byte_byte.l1 kq x6_2 l0 (l0.length : Int) x27_2 = some r) ∧ Aside0 (kq ≤ k1) ∧ Aside0 (Kd.R (Kd.int .u8) 5 w' w.heap.size (fun _ => True) v6 x6_2) ∧ Aside0 (Below w.heap.size w w'))
        case atStart => exact ⟨(y185), (0), (by first | rfl | (simp; done) | (simp [*]; done)), H', ⟨Nat.le_refl _⟩, ⟨by (with_reducible repeat (first | apply Kd.R_alloc | apply Kd.R_drewN | apply Kd.R_drew)); exact HO187.out⟩, ⟨by repeat (first | (with_reducible first | exact HB.out | apply below_alloc | apply pw_below_drewN | apply below_drew1) | exact HB.out)⟩⟩
        case round =>
          clear H'
          try clear c1
          try clear p1
          try clear q1
          try clear hx1
          try clear c2
          try clear c2b0
          try clear p2
          try clear c3
          try clear c3b0
          try clear c4
          try clear c4b0
          try clear c5
          try clear c5b0
          try clear c6
          try clear c6b0
          try clear c6b1
          try clear p6
          try clear hx184_0
          try clear p184
          try clear q184
          obtain ⟨x6_2, x27_2, rfl, HA, HK2, HO_6, HB⟩ := hrel
          cases gk with
          | zero => exact absurd HA.out (by simp [slices_Concat_byte_byte.l1])
          | succ k2 =>
            have H := HA.out
            clear HA
            simp only [slices_Concat_byte_byte.l1] at H
            by_cases c9 : x27_2 < (l0.length : Int)
            · rw [if_pos c9] at H
              have c9b0 : decide (x27_2 < (l0.length : Int)) = true := decide_eq_true c9
              clear c9
              by_cases c10 : 0 ≤ x27_2
              · rw [if_pos c10] at H
                have c10b0 : decide (0 ≤ x27_2) = true := decide_eq_true c10
                clear c10
                by_cases c11 : x27_2 < (l0.length : Int)
                · rw [if_pos c11] at H
                  have c11b0 : decide (x27_2 < (l0.length : Int)) = true := decide_eq_true c11
                  clear c11
                  by_cases c12 : x6_2.length + (rd_L1 l0 x27_2).length < 140737488355328
                  · rw [if_pos c12] at H
                    have LMc12 := Aside0.mk c12
                    clear c12
                    obtain ⟨y189, hy189⟩ : ∃ y_ : List Int, y_ = (x6_2 ++ (rd_L1 l0 x27_2)) := ⟨_, rfl⟩
                    replace H : (slices_Concat_byte_byte.l1 k2 y189 l0 (l0.length : Int) (wrap64 (x27_2 + 1))) = some r := by first | (rw [hy189]; with_reducible exact H) | (have H2_ := (Option.bind_some _ _).symm.trans H; rw [hy189]; with_reducible exact H2_) | (have H2_ := (Option.bind_some _ _).symm.trans H; with_reducible exact H2_) | with_reducible exact H | (rw [hy189]; exact H) | exact H
                    have Ny189 := Aside0.mk hy189
                    clear hy189
                    have H' := Aside0.mk H
                    clear H
                    have p188 : 0 ≤ (x27_2 : Int) := of_decide_eq_true (by first | (with_reducible assumption) | assumption)
                    have q188 : x27_2 < (l0.length : Int) := of_decide_eq_true (by first | (with_reducible assumption) | assumption)
                    obtain ⟨ad188, A188_0, c188_0, e188, hx188_0, hl188_0, hi188_0⟩ := at_L1 HR0.out x27_2 p188 q188
                    cases e188
                    replace hx188_0 := (HB.out.cell (World.block_lt_of_cell? w _ hx188_0)).trans hx188_0
                    have HR188_0 := Aside0.mk hi188_0
                    have HC188_0 := Aside0.mk hl188_0
                    clear hi188_0 hl188_0
                    replace p188 := eq_true p188
                    replace q188 := eq_true q188
                    go_wp2_with (first | ((with_reducible refine gate_builtin (b := .append) (xs := #[.tmp 31, .tmp 32]) rfl ?_); at_builtin; refine Kd.R_append_rows (Kd.int .u8) (w0 := w) w.heap.size rfl (.tmp 31) (.tmp 32) 22 5 (.int .u8 0) 1 rfl Try.underlying22 info5 rfl (by decide) (by omega) u6 x6_2 (rd_L1 l0 x27_2) _ _ _ (fun _ => True) (fun _ => False) rfl rfl ?aO ?aR (fun _ _ h => h) (fun _ h => h.elim) ?aF ?aB ?aS ?aL ?_; (case aR => repeat (first | exact (Kd.C_below HR188_0.out HB.out) | (with_reducible refine Kd.C_alloc ?_ _) | (with_reducible refine Kd.C_drewN ?_ _) | (with_reducible refine Kd.C_drew ?_))); (case aB => exact (by repeat (first | (with_reducible first | exact HB.out | apply below_alloc | apply pw_below_drewN | apply below_drew1) | exact HB.out))); (case aF => exact (fun _ _ => trivial)); (case aO => exact (by (with_reducible repeat (first | apply Kd.R_alloc | apply Kd.R_drewN | apply Kd.R_drew)); exact HO_6.out)); (case aS => exact (below_size (by repeat (first | (with_reducible first | exact HB.out | apply below_alloc | apply pw_below_drewN | apply below_drew1) | exact HB.out)))); (case aL => have := LMc12.out; omega); intro v190 w13 ho hb hg hat; rw [← Ny189.out] at ho; have n0_ := Aside0.mk (hb); have n1_ := Aside0.mk (ho); clear HB; clear HO_6; have HB := n0_; have HO191 := n1_; clear n0_ n1_; clear ho hb hg hat))
                    go_roundg k2
                    case measure => have := HK1.out; have := HK2.out; omega
                    case rel => exact ⟨(y189), (wrap64 (x27_2 + 1)), (by first | rfl | (simp; done) | (simp [*]; done)), H', ⟨by have := HK1.out; have := HK2.out; omega⟩, ⟨by (with_reducible repeat (first | apply Kd.R_alloc | apply Kd.R_drewN | apply Kd.R_drew)); exact HO191.out⟩, ⟨by repeat (first | (with_reducible first | exact HB.out | apply below_alloc | apply pw_below_drewN | apply below_drew1) | exact HB.out)⟩⟩
                  · rw [if_neg c12] at H
                    exact absurd H (by simp)
                · rw [if_neg c11] at H
                  exact absurd H (by simp)
              · rw [if_neg c10] at H
                exact absurd H (by simp)
            · rw [if_neg c9] at H
              have c9b0 : decide (x27_2 < (l0.length : Int)) = false := decide_eq_false c9
              clear c9
              obtain rfl := Option.some.inj H
              go_wp2
              go_ret
              exact ⟨_, by first | rfl | (simp [errW_none, errW_some] <;> rfl) | (simp [*, errW_none, errW_some] <;> rfl), by (with_reducible repeat (first | apply Kd.R_alloc | apply Kd.R_drewN | apply Kd.R_drew)); exact HO_6.out, by repeat (first | (with_reducible first | exact HB.out | apply below_alloc | apply pw_below_drewN | apply below_drew1) | exact HB.out)⟩
theorem slices_Concat_byte_byte.three {x y q : List Int} (h : x.length + y.length + q.length < 140737488355328) : slices_Concat_byte_byte.f 10 [x, y, q] = some (x ++ y ++ q) := by
  have e1 : wrap64 (0 + (x.length : Int)) = x.length := by unfold wrap64; omega
  have e2 : wrap64 ((x.length : Int) + y.length) = x.length + y.length := by unfold wrap64; omega
  have e3 : wrap64 ((x.length : Int) + y.length + q.length) = x.length + y.length + q.length := by unfold wrap64; omega
  have w1 : wrap64 (0 + 1) = 1 := by unfold wrap64; omega
  have w2 : wrap64 (1 + 1) = 2 := by unfold wrap64; omega
  have w3 : wrap64 (2 + 1) = 3 := by unfold wrap64; omega
  have r0 : rd_L1 [x, y, q] 0 = x := rfl
  have r1 : rd_L1 [x, y, q] 1 = y := rfl
  have r2 : rd_L1 [x, y, q] 2 = q := rfl
  have l3 : ([x, y, q].length : Int) = 3 := rfl
  unfold slices_Concat_byte_byte.f
  rw [l3]
  simp only [slices_Concat_byte_byte.l0, l3, r0, e1, w1]
  rw [if_pos (by omega), if_pos (by omega), if_pos (by omega), if_neg (by omega)]
  simp only [r1, e2, w2]
  rw [if_pos (by omega), if_pos (by omega), if_pos (by omega), if_neg (by omega)]
  simp only [r2, e3, w3]
  rw [if_pos (by omega), if_pos (by omega), if_pos (by omega), if_neg (by omega)]
  rw [if_neg (by omega), if_pos (by omega), if_pos (by omega)]
  simp only [slices_Concat_byte_byte.l1, l3, r0, w1]
  rw [if_pos (by omega), if_pos (by omega), if_pos (by omega), if_pos (by simp; omega)]
  simp only [r1, w2, List.nil_append]
  rw [if_pos (by omega), if_pos (by omega), if_pos (by omega), if_pos (by omega)]
  simp only [r2, w3]
  rw [if_pos (by omega), if_pos (by omega), if_pos (by omega), if_pos (by rw [List.length_append]; omega), if_neg (by omega)]
theorem slices_Concat_byte_byte.two {x y : List Int} (h : x.length + y.length < 140737488355328) : slices_Concat_byte_byte.f 10 [x, y] = some (x ++ y) := by
  have e1 : wrap64 (0 + (x.length : Int)) = x.length := by unfold wrap64; omega
  have e2 : wrap64 ((x.length : Int) + y.length) = x.length + y.length := by unfold wrap64; omega
  have w1 : wrap64 (0 + 1) = 1 := by unfold wrap64; omega
  have w2 : wrap64 (1 + 1) = 2 := by unfold wrap64; omega
  have r0 : rd_L1 [x, y] 0 = x := rfl
  have r1 : rd_L1 [x, y] 1 = y := rfl
  have l2 : ([x, y].length : Int) = 2 := rfl
  unfold slices_Concat_byte_byte.f
  rw [l2]
  simp only [slices_Concat_byte_byte.l0, l2, r0, e1, w1]
  rw [if_pos (by omega), if_pos (by omega), if_pos (by omega), if_neg (by omega)]
  simp only [r1, e2, w2]
  rw [if_pos (by omega), if_pos (by omega), if_pos (by omega), if_neg (by omega)]
  rw [if_neg (by omega), if_pos (by omega), if_pos (by omega)]
  simp only [slices_Concat_byte_byte.l1, l2, r0, w1]
  rw [if_pos (by omega), if_pos (by omega), if_pos (by omega), if_pos (by simp; omega)]
  simp only [r1, w2, List.nil_append]
  rw [if_pos (by omega), if_pos (by omega), if_pos (by omega), if_pos (by omega), if_neg (by omega)]
theorem slices_Concat_byte_byte.calls3 {W : World} {u v z : Value} (x y q : List Int) (hl : x.length + y.length + q.length < 140737488355328)
    (hu : (Kd.slice 5 (Kd.int .u8)).K W x [u]) (hv : (Kd.slice 5 (Kd.int .u8)).K W y [v]) (hz : (Kd.slice 5 (Kd.int .u8)).K W q [z]) :
    Calls Try.prog 51 #[.slice (some ⟨W.heap.size, 0, none⟩) 3 3] (W.alloc (.cells #[u, v, z] 22)) fun e w' => ∃ v0_ : Value, e = .returned (v0_) ∧ Kd.R (Kd.int .u8) 5 w' (W.alloc (.cells #[u, v, z] 22)).heap.size (fun _ => True) v0_ (x ++ y ++ q) ∧ Below (W.alloc (.cells #[u, v, z] 22)).heap.size (W.alloc (.cells #[u, v, z] 22)) w' := by
  have hb : Below W.heap.size W (W.alloc (.cells #[u, v, z] 22)) := below_alloc (Below.refl _ _) _
  have hc := Kd.C_lit (d := Kd.slice 5 (Kd.int .u8)) rfl (W := W) (cs := [u, v, z]) (xs := [x, y, q]) 22 rfl (by simp) (fun j p hj => by
    match j, hj with
    | 0, hj => obtain rfl := Option.some.inj hj; exact ⟨u, rfl, (Kd.slice 5 (Kd.int .u8)).K_below hb hu⟩
    | 1, hj => obtain rfl := Option.some.inj hj; exact ⟨v, rfl, (Kd.slice 5 (Kd.int .u8)).K_below hb hv⟩
    | 2, hj => obtain rfl := Option.some.inj hj; exact ⟨z, rfl, (Kd.slice 5 (Kd.int .u8)).K_below hb hz⟩)
  exact slices_Concat_byte_byte.calls 10 (some ⟨W.heap.size, 0, none⟩) 3 [x, y, q] _ _ hc (Nat.le_refl _) (slices_Concat_byte_byte.three hl)
theorem slices_Concat_byte_byte.calls2 {W : World} {u v : Value} (x y : List Int) (hl : x.length + y.length < 140737488355328)
    (hu : (Kd.slice 5 (Kd.int .u8)).K W x [u]) (hv : (Kd.slice 5 (Kd.int .u8)).K W y [v]) :
    Calls Try.prog 51 #[.slice (some ⟨W.heap.size, 0, none⟩) 2 2] (W.alloc (.cells #[u, v] 22)) fun e w' => ∃ v0_ : Value, e = .returned (v0_) ∧ Kd.R (Kd.int .u8) 5 w' (W.alloc (.cells #[u, v] 22)).heap.size (fun _ => True) v0_ (x ++ y) ∧ Below (W.alloc (.cells #[u, v] 22)).heap.size (W.alloc (.cells #[u, v] 22)) w' := by
  have hb : Below W.heap.size W (W.alloc (.cells #[u, v] 22)) := below_alloc (Below.refl _ _) _
  have hc := Kd.C_lit (d := Kd.slice 5 (Kd.int .u8)) rfl (W := W) (cs := [u, v]) (xs := [x, y]) 22 rfl (by simp) (fun j p hj => by
    match j, hj with
    | 0, hj => obtain rfl := Option.some.inj hj; exact ⟨u, rfl, (Kd.slice 5 (Kd.int .u8)).K_below hb hu⟩
    | 1, hj => obtain rfl := Option.some.inj hj; exact ⟨v, rfl, (Kd.slice 5 (Kd.int .u8)).K_below hb hv⟩)
  exact slices_Concat_byte_byte.calls 10 (some ⟨W.heap.size, 0, none⟩) 2 [x, y] _ _ hc (Nat.le_refl _) (slices_Concat_byte_byte.two hl)

/-! ### impl_bytesOf: function 52 -/
def impl_bytesOf.l0 : Nat → Int → List Int → Int → Option (List Int)
  | 0, _, _, _ => none
  | k + 1, x0, x5, x6 => if x6 ≥ 0 then (if 0 ≤ x6 then (if x6 < (x5.length : Int) then (impl_bytesOf.l0 k (x0 / 256) (x5.set (x6 : Int).toNat ((x0) % 256)) (wrap64 (x6 - 1))) else (none)) else (none)) else (some x5)
def impl_bytesOf.f (k : Nat) (a0 : Int) (a1 : Int) : Option (List Int) := if 0 ≤ a1 then (if (a1 : Int).toNat ≤ 281474976710656 then (impl_bytesOf.l0 k a0 (List.replicate (a1 : Int).toNat 0) (wrap64 (a1 - 1))) else (none)) else (none)
theorem impl_bytesOf.mono_l : ∀ k, (∀ y0 y1 y2, LeO (impl_bytesOf.l0 k y0 y1 y2) (impl_bytesOf.l0 (k + 1) y0 y1 y2))
  | 0 => fun _ _ _ r h => by simp [impl_bytesOf.l0] at h
  | k + 1 => by
    have ih0 := impl_bytesOf.mono_l k
    · intro y0 y1 y2
      unfold impl_bytesOf.l0
      repeat' first
      | (with_reducible exact ih0 _ _ _)
      | (with_reducible exact LeO.refl _)
      | (with_reducible exact LeO.none _)
      | (with_reducible refine LeO.ite ?_ ?_)
      | (with_reducible refine LeO.bind ?_ (fun _ => ?_))
      | exact ih0 _ _ _
      | exact LeO.none _
      | refine LeO.ite ?_ ?_
      | refine LeO.bind ?_ (fun _ => ?_)
theorem impl_bytesOf.mono : ∀ a0 a1 k, LeO (impl_bytesOf.f k a0 a1) (impl_bytesOf.f (k + 1) a0 a1) := by
  intro a0 a1 k
  have ih0 := impl_bytesOf.mono_l k
  unfold impl_bytesOf.f
  repeat' first
      | (with_reducible exact ih0 _ _ _)
      | (with_reducible exact LeO.refl _)
      | (with_reducible exact LeO.none _)
      | (with_reducible refine LeO.ite ?_ ?_)
      | (with_reducible refine LeO.bind ?_ (fun _ => ?_))
      | exact ih0 _ _ _
      | exact LeO.none _
      | refine LeO.ite ?_ ?_
      | refine LeO.bind ?_ (fun _ => ?_)
set_option maxHeartbeats 8000000 in
set_option maxRecDepth 100000 in
theorem impl_bytesOf.calls (k : Nat) (a0 : Int) (a1 : Int) (r : List Int) (w : World) (h : impl_bytesOf.f k a0 a1 = some r) :
    Calls Try.prog 52 #[.int .i64 a0, .int .i64 a1] w fun e w' => ∃ v0_ : Value, e = .returned (v0_) ∧ Kd.R (Kd.int .u8) 5 w' w.heap.size (fun _ => True) v0_ r ∧ Below w.heap.size w w' := by
  have HB := Aside0.mk (Below.refl w.heap.size w)
  have H : (if 0 ≤ a1 then (if (a1 : Int).toNat ≤ 281474976710656 then (impl_bytesOf.l0 k a0 (List.replicate (a1 : Int).toNat 0) (wrap64 (a1 - 1))) else (none)) else (none)) = some r := h
  clear h
  by_cases c3 : 0 ≤ a1
  · rw [if_pos c3] at H
    have c3b0 := eq_true c3
    have c3b1 : decide (0 ≤ a1) = true := decide_eq_true c3
    clear c3
    by_cases c4 : (a1 : Int).toNat ≤ 281474976710656
    · rw [if_pos c4] at H
      have c4b0 := eq_true c4
      have c4b1 : decide ((a1 : Int).toNat ≤ 281474976710656) = true := decide_eq_true c4
      clear c4
      obtain ⟨y192, hy192⟩ : ∃ y_ : List Int, y_ = (List.replicate (a1 : Int).toNat 0) := ⟨_, rfl⟩
      replace H : (impl_bytesOf.l0 k a0 y192 (wrap64 (a1 - 1))) = some r := by first | (rw [hy192]; with_reducible exact H) | (have H2_ := (Option.bind_some _ _).symm.trans H; rw [hy192]; with_reducible exact H2_) | (have H2_ := (Option.bind_some _ _).symm.trans H; with_reducible exact H2_) | with_reducible exact H | (rw [hy192]; exact H) | exact H
      have Ny192 := Aside0.mk hy192
      clear hy192
      have H' := Aside0.mk H
      clear H
      go_enter Try.func52, Try.ntmps52
      go_wp2_with (first | ((with_reducible refine gate_dst (N := 8) rfl ?_); refine Kd.R_make (Kd.int .u8) _ 5 rfl (N := 8) rfl 22 _ _ rfl a1 rfl rfl Try.underlying22 (.int .u8 0) 1 info5 rfl (by decide) (by omega) 0 (ok := fun _ => True) (okp := fun _ => True) rfl (fun _ hk => hk) trivial (of_decide_eq_true (by first | (with_reducible assumption) | assumption)) (Nat.le_trans (Nat.mul_le_mul_right _ (of_decide_eq_true (by first | (with_reducible assumption) | assumption) : a1.toNat ≤ 281474976710656)) (by omega)) (Below.refl _ _) (Nat.le_refl _) ?_; intro v193 w5 ho6 hb hg_ hnew_; clear hg_ hnew_; (first | rw [← Ny192.out] at ho6 | (simp only [Int.reduceToNat] at ho6; rw [← Ny192.out] at ho6)); have n0_ := Aside0.mk (Kd.R_lower ho6 (below_size (by repeat (first | (with_reducible first | exact HB.out | apply below_alloc | apply pw_below_drewN | apply below_drew1) | exact HB.out)))); have n1_ := Aside0.mk (below_step (by repeat (first | (with_reducible first | exact HB.out | apply below_alloc | apply pw_below_drewN | apply below_drew1) | exact HB.out)) hb); clear HB; have HO194 := n0_; have HB := n1_; clear n0_ n1_; clear hb ho6))
      go_loopg [0, 6] k (fun kq v0 v6 w' => ∃ (x0_1 : Int) (x5_1 : List Int) (x6_1 : Int), v0 = .int .i64 x0_1 ∧ v6 = .int .i64 x6_1 ∧ Aside0 (impl_bytesOf.l0 kq x0_1 x5_1 x6_1 = some r) ∧ Aside0 (kq ≤ k) ∧ Aside0 (Kd.R (Kd.int .u8) 5 w' w.heap.size (fun _ => True) v193 x5_1) ∧ Aside0 (Below w.heap.size w w'))
      case atStart => exact ⟨(a0), (y192), (wrap64 (a1 - 1)), (by first | rfl | (simp; done) | (simp [*]; done)), (by first | rfl | (simp; done) | (simp [*]; done)), H', ⟨Nat.le_refl _⟩, ⟨by (with_reducible repeat (first | apply Kd.R_alloc | apply Kd.R_drewN | apply Kd.R_drew)); exact HO194.out⟩, ⟨by repeat (first | (with_reducible first | exact HB.out | apply below_alloc | apply pw_below_drewN | apply below_drew1) | exact HB.out)⟩⟩
      case round =>
        clear H'
        try clear p2
        try clear c3
        try clear c3b0
        try clear c3b1
        try clear c4
        try clear c4b0
        try clear c4b1
        try clear c5
        try clear p6
        obtain ⟨x0_1, x5_1, x6_1, rfl, rfl, HA, HK1, HO_5, HB⟩ := hrel
        cases gk with
        | zero => exact absurd HA.out (by simp [impl_bytesOf.l0])
        | succ k1 =>
          have H := HA.out
          clear HA
          simp only [impl_bytesOf.l0] at H
          by_cases c7 : x6_1 ≥ 0
          · rw [if_pos c7] at H
            have c7b0 : decide (0 ≤ x6_1) = true := decide_eq_true c7
            clear c7
            by_cases c8 : 0 ≤ x6_1
            · rw [if_pos c8] at H
              have c8b0 : decide (0 ≤ x6_1) = true := decide_eq_true c8
              clear c8
              by_cases c9 : x6_1 < (x5_1.length : Int)
              · rw [if_pos c9] at H
                have c9b0 : decide (x6_1 < (x5_1.length : Int)) = true := decide_eq_true c9
                clear c9
                obtain ⟨y195, hy195⟩ : ∃ y_ : List Int, y_ = (x5_1.set (x6_1 : Int).toNat ((x0_1) % 256)) := ⟨_, rfl⟩
                replace H : (impl_bytesOf.l0 k1 (x0_1 / 256) y195 (wrap64 (x6_1 - 1))) = some r := by first | (rw [hy195]; with_reducible exact H) | (have H2_ := (Option.bind_some _ _).symm.trans H; rw [hy195]; with_reducible exact H2_) | (have H2_ := (Option.bind_some _ _).symm.trans H; with_reducible exact H2_) | with_reducible exact H | (rw [hy195]; exact H) | exact H
                have Ny195 := Aside0.mk hy195
                clear hy195
                have H' := Aside0.mk H
                clear H
                have p10 : 0 ≤ (x6_1 : Int) := of_decide_eq_true (by first | (with_reducible assumption) | assumption)
                have q10 : (x6_1 : Int) < ((x5_1.length : Int) : Int) := of_decide_eq_true (by first | (with_reducible assumption) | assumption)
                obtain ⟨go10, co10, eo10, gb10, gl10, cl10, HG10⟩ := Kd.R_form HO_5.out (by omega)
                (first | cases eo10 | (injection eo10 with ea_ en_ ec_; (first | subst ea_ | (injection ea_ with ea_; subst ea_)); subst ec_; clear en_))
                have GB10 := Aside0.mk gb10
                have GG10 := Aside0.mk HG10
                clear gb10 gl10 HG10
                obtain ⟨hx10_0, hf10_0⟩ := Kd.R_celln 0 HO_5.out (x6_1 : Int) p10 q10
                replace p10 := eq_true p10
                replace q10 := eq_true q10
                have HP11 := Kd.R_putg HO_5.out (x6_1 : Int) ((x0_1) % 256)
                go_wp2_with (first | ((with_reducible refine gate_store (t := 5) (p := 19) rfl ?_); refine store_event (t := 5) (p := 19) (v := ?vo_w12) (w1 := (wr.setCell ⟨go10, (x6_1 : Int).toNat, none⟩ (.int .u8 ((x0_1) % 256)))) ?hg ?ho ?hn ?hr ?_; (case ho => rfl); (case hg => rfl); (case hn => rfl); (case hr => first | (go_simp; done) | (go_simp; rfl)); intro w12 hw; have hg : wr.grownBy w12 (some go10) := (by rw [hw]; exact HP11.2); have hp_ : Kd.R (Kd.int .u8) 5 w12 w.heap.size (fun _ => True) (.slice (some ⟨go10, 0, none⟩) x5_1.length co10) y195 := (by rw [hw, Ny195.out]; exact HP11.1); clear HP11; have n0_ := Aside0.mk (hp_); have n1_ := Aside0.mk ((by rw [hw]; exact below_set (HB.out) GB10.out : Below w.heap.size w w12)); clear HO_5; clear HB; have HO_5 := n0_; have HB := n1_; clear n0_ n1_; clear hg hw hp_))
                go_roundg k1
                case measure => have := HK1.out; omega
                case rel => exact ⟨(x0_1 / 256), (y195), (wrap64 (x6_1 - 1)), (by first | rfl | (simp; done) | (simp [*]; done)), (by first | rfl | (simp; done) | (simp [*]; done)), H', ⟨by have := HK1.out; omega⟩, ⟨by (with_reducible repeat (first | apply Kd.R_alloc | apply Kd.R_drewN | apply Kd.R_drew)); exact HO_5.out⟩, ⟨by repeat (first | (with_reducible first | exact HB.out | apply below_alloc | apply pw_below_drewN | apply below_drew1) | exact HB.out)⟩⟩
              · rw [if_neg c9] at H
                exact absurd H (by simp)
            · rw [if_neg c8] at H
              exact absurd H (by simp)
          · rw [if_neg c7] at H
            have c7b0 : decide (0 ≤ x6_1) = false := decide_eq_false c7
            clear c7
            obtain rfl := Option.some.inj H
            go_wp2
            go_ret
            exact ⟨_, by first | rfl | (simp [errW_none, errW_some] <;> rfl) | (simp [*, errW_none, errW_some] <;> rfl), by (with_reducible repeat (first | apply Kd.R_alloc | apply Kd.R_drewN | apply Kd.R_drew)); exact HO_5.out, by repeat (first | (with_reducible first | exact HB.out | apply below_alloc | apply pw_below_drewN | apply below_drew1) | exact HB.out)⟩
    · rw [if_neg c4] at H
      exact absurd H (by simp)
  · rw [if_neg c3] at H
    exact absurd H (by simp)

/-! ### impl_RecordBytes: function 22 -/
def impl_RecordBytes.f (k : Nat) (a0 : Int) (a1 : Int) (l2 : List Int) (a3 : Bool) : Option (List Int) := (impl_SealOf.f k a0 a1 l2 a3).bind fun t196 => (if t196 < 0 then (some ([] : List Int)) else ((impl_bit.f a3 128).bind fun t197 => ((some (([(wrap64 ((l2.length : Int) + t197)) % 256] : List Int) : List Int)).bind fun y198 => ((impl_bytesOf.f k t196 2).bind fun t201 => (if y198.length + l2.length < 140737488355328 then ((some (y198 ++ l2 : List Int)).bind fun y204 => (if y204.length + t201.length < 140737488355328 then (some (y204 ++ t201)) else (none))) else (none))))))
theorem impl_RecordBytes.mono : ∀ a0 a1 a2 a3 k, LeO (impl_RecordBytes.f k a0 a1 a2 a3) (impl_RecordBytes.f (k + 1) a0 a1 a2 a3) := by
  intro a0 a1 a2 a3 k
  unfold impl_RecordBytes.f
  repeat' first
      | (with_reducible exact impl_SealOf.mono _ _ _ _ _)
      | (with_reducible exact impl_bytesOf.mono _ _ _)
      | (with_reducible exact LeO.refl _)
      | (with_reducible exact LeO.none _)
      | (with_reducible refine LeO.ite ?_ ?_)
      | (with_reducible refine LeO.bind ?_ (fun _ => ?_))
      | exact impl_SealOf.mono _ _ _ _ _
      | exact impl_bytesOf.mono _ _ _
      | exact LeO.none _
      | refine LeO.ite ?_ ?_
      | refine LeO.bind ?_ (fun _ => ?_)
set_option maxHeartbeats 8000000 in
set_option maxRecDepth 100000 in
theorem impl_RecordBytes.calls (k : Nat) (a0 : Int) (a1 : Int) (A2 : Option Addr) (c2 : Nat) (l2 : List Int) (a3 : Bool) (r : List Int) (w : World) (hr2 : Kd.C (Kd.int .u8) w A2 l2.length l2) (hc2 : l2.length ≤ c2) (h : impl_RecordBytes.f k a0 a1 l2 a3 = some r) :
    Calls Try.prog 22 #[.int .i64 a0, .int .i64 a1, .slice A2 l2.length c2, .bool a3] w fun e w' => ∃ v0_ : Value, e = .returned (v0_) ∧ Kd.R (Kd.int .u8) 5 w' w.heap.size (fun _ => True) v0_ r ∧ Below w.heap.size w w' := by
  have HR2 := Aside0.mk hr2
  have HC2 := Aside0.mk hc2
  clear hr2 hc2
  have HB := Aside0.mk (Below.refl w.heap.size w)
  have H : ((impl_SealOf.f k a0 a1 l2 a3).bind fun t196 => (if t196 < 0 then (some ([] : List Int)) else ((impl_bit.f a3 128).bind fun t197 => ((some (([(wrap64 ((l2.length : Int) + t197)) % 256] : List Int) : List Int)).bind fun y198 => ((impl_bytesOf.f k t196 2).bind fun t201 => (if y198.length + l2.length < 140737488355328 then ((some (y198 ++ l2 : List Int)).bind fun y204 => (if y204.length + t201.length < 140737488355328 then (some (y204 ++ t201)) else (none))) else (none))))))) = some r := h
  clear h
  replace H := Option.bind_eq_some_iff.mp H
  obtain ⟨t196, A50, H⟩ := H
  replace H : (if t196 < 0 then (some ([] : List Int)) else ((impl_bit.f a3 128).bind fun t197 => ((some (([(wrap64 ((l2.length : Int) + t197)) % 256] : List Int) : List Int)).bind fun y198 => ((impl_bytesOf.f k t196 2).bind fun t201 => (if y198.length + l2.length < 140737488355328 then ((some (y198 ++ l2 : List Int)).bind fun y204 => (if y204.length + t201.length < 140737488355328 then (some (y204 ++ t201)) else (none))) else (none)))))) = some r := H
  have A5 := Aside0.mk A50
  clear A50
  by_cases c6 : t196 < 0
  · rw [if_pos c6] at H
    have c6b0 : decide (t196 < 0) = true := decide_eq_true c6
    clear c6
    obtain rfl := Option.some.inj H
    go_enter Try.func22, Try.ntmps22
    go_wp2_with (first | ((with_reducible refine gate_callee (f := 17) rfl ?_); refine goesL_ (some 14) rfl rfl Try.func17 (by kernel_rfl) rfl #[.int .i64 a0, .int .i64 a1, .slice A2 l2.length c2, .bool a3] rfl (by (try simp only [List.map_toArray, List.map_cons, List.map_nil]); first | done | rfl | (simp only [List.length_drop, List.length_take]; rfl)) ?_; (with_reducible refine (impl_SealOf.calls k a0 a1 _ _ l2 a3 t196 _ ?side1 ?side2 A5.out).mono ?_); (case side1 => repeat (first | exact HR2.out | (with_reducible refine Kd.C_alloc ?_ _) | (with_reducible refine Kd.C_drewN ?_ _) | (with_reducible refine Kd.C_drew ?_))); (case side2 => exact HC2.out); rintro e w7 ⟨rfl, hb⟩; refine ⟨_, rfl, ?_⟩; have n0_ := Aside0.mk (below_step (by repeat (first | (with_reducible first | exact HB.out | apply below_alloc | apply pw_below_drewN | apply below_drew1) | exact HB.out)) hb); clear HB; have HB := n0_; clear n0_; (try clear hb); (try clear hb2); (try clear hk); (try clear hi)))
    go_ret
    exact ⟨_, by first | rfl | (simp [errW_none, errW_some] <;> rfl) | (simp [*, errW_none, errW_some] <;> rfl), by first | exact Kd.R_nil _ _ _ _ _ | exact Kd.N_nil _ _ _ _ _ | exact Kd.V_nil _ _ _ _ _ | exact Kd.Q_nil _ _ _ _ _ | exact Kd.S_nil _ _ _ _ _, by repeat (first | (with_reducible first | exact HB.out | apply below_alloc | apply pw_below_drewN | apply below_drew1) | exact HB.out)⟩
  · rw [if_neg c6] at H
    have c6b0 : decide (t196 < 0) = false := decide_eq_false c6
    clear c6
    replace H := Option.bind_eq_some_iff.mp H
    obtain ⟨t197, A80, H⟩ := H
    replace H : ((some (([(wrap64 ((l2.length : Int) + t197)) % 256] : List Int) : List Int)).bind fun y198 => ((impl_bytesOf.f k t196 2).bind fun t201 => (if y198.length + l2.length < 140737488355328 then ((some (y198 ++ l2 : List Int)).bind fun y204 => (if y204.length + t201.length < 140737488355328 then (some (y204 ++ t201)) else (none))) else (none)))) = some r := H
    have A8 := Aside0.mk A80
    clear A80
    obtain ⟨y198, hy198⟩ : ∃ y_ : List Int, y_ = (([(wrap64 ((l2.length : Int) + t197)) % 256] : List Int)) := ⟨_, rfl⟩
    replace H : ((impl_bytesOf.f k t196 2).bind fun t201 => (if y198.length + l2.length < 140737488355328 then ((some (y198 ++ l2 : List Int)).bind fun y204 => (if y204.length + t201.length < 140737488355328 then (some (y204 ++ t201)) else (none))) else (none))) = some r := by first | (rw [hy198]; with_reducible exact H) | (have H2_ := (Option.bind_some _ _).symm.trans H; rw [hy198]; with_reducible exact H2_) | (have H2_ := (Option.bind_some _ _).symm.trans H; with_reducible exact H2_) | with_reducible exact H | (rw [hy198]; exact H) | exact H
    have Ny198 := Aside0.mk hy198
    clear hy198
    replace H := Option.bind_eq_some_iff.mp H
    obtain ⟨t201, A90, H⟩ := H
    replace H : (if y198.length + l2.length < 140737488355328 then ((some (y198 ++ l2 : List Int)).bind fun y204 => (if y204.length + t201.length < 140737488355328 then (some (y204 ++ t201)) else (none))) else (none)) = some r := H
    have A9 := Aside0.mk A90
    clear A90
    by_cases c10 : y198.length + l2.length < 140737488355328
    · rw [if_pos c10] at H
      have LMc10 := Aside0.mk c10
      clear c10
      obtain ⟨y204, hy204⟩ : ∃ y_ : List Int, y_ = (y198 ++ l2) := ⟨_, rfl⟩
      replace H : (if y204.length + t201.length < 140737488355328 then (some (y204 ++ t201)) else (none)) = some r := by first | (rw [hy204]; with_reducible exact H) | (have H2_ := (Option.bind_some _ _).symm.trans H; rw [hy204]; with_reducible exact H2_) | (have H2_ := (Option.bind_some _ _).symm.trans H; with_reducible exact H2_) | with_reducible exact H | (rw [hy204]; exact H) | exact H
      have Ny204 := Aside0.mk hy204
      clear hy204
      by_cases c11 : y204.length + t201.length < 140737488355328
      · rw [if_pos c11] at H
        have LMc11 := Aside0.mk c11
        clear c11
        obtain ⟨y207, hy207⟩ : ∃ y_ : List Int, y_ = (y204 ++ t201) := ⟨_, rfl⟩
        replace H : (some y207) = some r := by first | (rw [hy207]; with_reducible exact H) | (have H2_ := (Option.bind_some _ _).symm.trans H; rw [hy207]; with_reducible exact H2_) | (have H2_ := (Option.bind_some _ _).symm.trans H; with_reducible exact H2_) | with_reducible exact H | (rw [hy207]; exact H) | exact H
        have Ny207 := Aside0.mk hy207
        clear hy207
        obtain rfl := Option.some.inj H
        have Hcc_ := Aside0.mk (show y207 = y198 ++ l2 ++ t201 by rw [Ny207.out, Ny204.out])
        have HLc_ := Aside0.mk (show y198.length + l2.length + t201.length < 140737488355328 by have h_ := LMc11.out; rw [Ny204.out, List.length_append] at h_; exact h_)
        go_enter Try.func22, Try.ntmps22
        go_wp2_with (first | ((with_reducible refine gate_callee (f := 17) rfl ?_); refine goesL_ (some 14) rfl rfl Try.func17 (by kernel_rfl) rfl #[.int .i64 a0, .int .i64 a1, .slice A2 l2.length c2, .bool a3] rfl (by (try simp only [List.map_toArray, List.map_cons, List.map_nil]); first | done | rfl | (simp only [List.length_drop, List.length_take]; rfl)) ?_; (with_reducible refine (impl_SealOf.calls k a0 a1 _ _ l2 a3 t196 _ ?side1 ?side2 A5.out).mono ?_); (case side1 => repeat (first | exact HR2.out | (with_reducible refine Kd.C_alloc ?_ _) | (with_reducible refine Kd.C_drewN ?_ _) | (with_reducible refine Kd.C_drew ?_))); (case side2 => exact HC2.out); rintro e w12 ⟨rfl, hb⟩; refine ⟨_, rfl, ?_⟩; have n0_ := Aside0.mk (below_step (by repeat (first | (with_reducible first | exact HB.out | apply below_alloc | apply pw_below_drewN | apply below_drew1) | exact HB.out)) hb); clear HB; have HB := n0_; clear n0_; (try clear hb); (try clear hb2); (try clear hk); (try clear hi)) | ((with_reducible refine gate_callee (f := 44) rfl ?_); refine goesL_ (some 20) rfl rfl Try.func44 (by kernel_rfl) rfl #[.bool a3, .int .i64 128] rfl (by (try simp only [List.map_toArray, List.map_cons, List.map_nil]); first | done | rfl | (simp only [List.length_drop, List.length_take]; rfl)) ?_; (with_reducible refine (impl_bit.calls a3 128 t197 _ A8.out).mono ?_); rintro e w' ⟨rfl, ⟨nd, rfl⟩⟩; refine ⟨_, rfl, ?_⟩) | ((with_reducible refine gate_dst (N := 23) rfl ?_); refine Kd.R_lit (Kd.int .u8) _ 5 ?hg (N := 23) ?hd (xs := ([(wrap64 ((l2.length : Int) + t197)) % 256] : List Int)) (inner := [.int .u8 ((wrap64 ((l2.length : Int) + t197)) % 256)]) (ok := fun _ => True) (okp := fun _ => True) ?hr ?hp (fun _ hk => hk) trivial (Below.refl _ _) (Nat.le_refl _) (by simp) ?_; (case hd => rfl); (case hg => rfl); (case hr => first | (go_simp; done) | (go_simp; rfl)); (case hp => exact (Reps.one (show Kd.M (Kd.int .u8) _ _ _ ((wrap64 ((l2.length : Int) + t197)) % 256) [.int .u8 ((wrap64 ((l2.length : Int) + t197)) % 256)] from rfl) (Reps.none _ _))); intro v199 w13 ho14 hb hg_ hnew_; clear hg_ hnew_; (first | rw [← Ny198.out] at ho14 | (simp only [Int.reduceToNat] at ho14; rw [← Ny198.out] at ho14)); have n0_ := Aside0.mk (Kd.R_lower ho14 (below_size (by repeat (first | (with_reducible first | exact HB.out | apply below_alloc | apply pw_below_drewN | apply below_drew1) | exact HB.out)))); have n1_ := Aside0.mk (below_step (by repeat (first | (with_reducible first | exact HB.out | apply below_alloc | apply pw_below_drewN | apply below_drew1) | exact HB.out)) hb); clear HB; have HO200 := n0_; have HB := n1_; clear n0_ n1_; clear hb ho14; obtain ⟨Ax_, cx_, ex_⟩ := Kd.R_slice HO200.out; subst ex_) | ((with_reducible refine gate_callee (f := 52) rfl ?_); refine goesL_ (some 26) rfl rfl Try.func52 (by kernel_rfl) rfl #[.int .i64 t196, .int .i64 2] rfl (by (try simp only [List.map_toArray, List.map_cons, List.map_nil]); first | done | rfl | (simp only [List.length_drop, List.length_take]; rfl)) ?_; (with_reducible refine (impl_bytesOf.calls k t196 2 t201 _ A9.out).mono ?_); rintro e w15 ⟨v202, rfl, ho0, hb⟩; refine ⟨_, rfl, ?_⟩; have n0_ := Aside0.mk (Kd.R_elder' (by (with_reducible repeat (first | apply Kd.R_alloc | apply Kd.R_drewN | apply Kd.R_drew)); exact HO200.out) (Kd.R_base ho0) hb); have n1_ := Aside0.mk (Kd.R_lower (Kd.R_new' ho0 (Kd.R_lt (by (with_reducible repeat (first | apply Kd.R_alloc | apply Kd.R_drewN | apply Kd.R_drew)); exact HO200.out))) (below_size (by repeat (first | (with_reducible first | exact HB.out | apply below_alloc | apply pw_below_drewN | apply below_drew1) | exact HB.out)))); have n2_ := Aside0.mk (below_step (by repeat (first | (with_reducible first | exact HB.out | apply below_alloc | apply pw_below_drewN | apply below_drew1) | exact HB.out)) hb); clear HO200; clear HB; have HO200 := n0_; have HO203 := n1_; have HB := n2_; clear n0_ n1_ n2_; (try clear hb); (try clear hb2); (try clear hk); (try clear hi); (try clear ho0); obtain ⟨Ax_, cx_, ex_⟩ := Kd.R_slice HO203.out; subst ex_) | (go_at_call 51; (refine (slices_Concat_byte_byte.calls3 y198 l2 t201 HLc_.out (Kd.K_of_row HO200.out) ⟨A2, c2, rfl, HC2.out, Kd.C_below HR2.out HB.out⟩ (Kd.K_of_row HO203.out)).mono ?_); rintro e w17 ⟨v_, rfl, ho0, hb⟩; rw [← Hcc_.out] at ho0; have n0_ := Aside0.mk (Kd.R_lower ho0 (below_size (by repeat (first | (with_reducible first | exact HB.out | apply below_alloc | apply pw_below_drewN | apply below_drew1) | exact HB.out)))); have n1_ := Aside0.mk (below_step (by repeat (first | (with_reducible first | exact HB.out | apply below_alloc | apply pw_below_drewN | apply below_drew1) | exact HB.out)) hb); clear HB; have HO209 := n0_; have HB := n1_; clear n0_ n1_; clear hb ho0))
        go_ret
        exact ⟨_, by first | rfl | (simp [errW_none, errW_some] <;> rfl) | (simp [*, errW_none, errW_some] <;> rfl), by (with_reducible repeat (first | apply Kd.R_alloc | apply Kd.R_drewN | apply Kd.R_drew)); exact Kd.R_mono HO209.out (fun _ hk => trivial), by repeat (first | (with_reducible first | exact HB.out | apply below_alloc | apply pw_below_drewN | apply below_drew1) | exact HB.out)⟩
      · rw [if_neg c11] at H
        exact absurd H (by simp)
    · rw [if_neg c10] at H
      exact absurd H (by simp)

/-! ### impl_Sealed: function 28 -/
mutual
def impl_Sealed.j0 : Nat → Int → List Int → Bool → Option (List Int)
  | 0, _, _, _ => none
  | k + 1, x0, x1, x14 => if x14 = true then (some ([] : List Int)) else (impl_Sealed.l0 k x0 x1 ([] : List Int) 0)
def impl_Sealed.l0 : Nat → Int → List Int → List Int → Int → Option (List Int)
  | 0, _, _, _, _ => none
  | k + 1, x0, x1, x5, x6 => if (x1.length : Int) > 10 then (if 10 ≤ (x1.length : Int) then ((impl_RecordBytes.f k x0 x6 (x1.take 10) false).bind fun t216 => (if x5.length + t216.length < 140737488355328 then (impl_Sealed.l0 k x0 (x1.drop 10) (x5 ++ t216) (wrap64 (x6 + 1))) else (none))) else (none)) else ((impl_RecordBytes.f k x0 x6 x1 true).bind fun t227 => (if x5.length + t227.length < 140737488355328 then (some (x5 ++ t227)) else (none)))
end
def impl_Sealed.f (k : Nat) (a0 : Int) (l1 : List Int) : Option (List Int) := (impl_sealOk.f a0 0 ([] : List Int)).bind fun t210 => (if t210 = true then (impl_Sealed.j0 k a0 l1 (decide ((l1.length : Int) > 1000))) else (impl_Sealed.j0 k a0 l1 true))
theorem impl_Sealed.mono_l : ∀ k, (∀ y0 y1 y2, LeO (impl_Sealed.j0 k y0 y1 y2) (impl_Sealed.j0 (k + 1) y0 y1 y2)) ∧ (∀ y0 y1 y2 y3, LeO (impl_Sealed.l0 k y0 y1 y2 y3) (impl_Sealed.l0 (k + 1) y0 y1 y2 y3))
  | 0 => ⟨fun _ _ _ r h => by simp [impl_Sealed.j0] at h, fun _ _ _ _ r h => by simp [impl_Sealed.l0] at h⟩
  | k + 1 => by
    obtain ⟨ih0, ih1⟩ := impl_Sealed.mono_l k
    refine ⟨?_, ?_⟩
    · intro y0 y1 y2
      unfold impl_Sealed.j0
      repeat' first
      | (with_reducible exact ih0 _ _ _)
      | (with_reducible exact ih1 _ _ _ _)
      | (with_reducible exact impl_RecordBytes.mono _ _ _ _ _)
      | (with_reducible exact LeO.refl _)
      | (with_reducible exact LeO.none _)
      | (with_reducible refine LeO.ite ?_ ?_)
      | (with_reducible refine LeO.bind ?_ (fun _ => ?_))
      | exact ih0 _ _ _
      | exact ih1 _ _ _ _
      | exact impl_RecordBytes.mono _ _ _ _ _
      | exact LeO.none _
      | refine LeO.ite ?_ ?_
      | refine LeO.bind ?_ (fun _ => ?_)
    · intro y0 y1 y2 y3
      unfold impl_Sealed.l0
      repeat' first
      | (with_reducible exact ih0 _ _ _)
      | (with_reducible exact ih1 _ _ _ _)
      | (with_reducible exact impl_RecordBytes.mono _ _ _ _ _)
      | (with_reducible exact LeO.refl _)
      | (with_reducible exact LeO.none _)
      | (with_reducible refine LeO.ite ?_ ?_)
      | (with_reducible refine LeO.bind ?_ (fun _ => ?_))
      | exact ih0 _ _ _
      | exact ih1 _ _ _ _
      | exact impl_RecordBytes.mono _ _ _ _ _
      | exact LeO.none _
      | refine LeO.ite ?_ ?_
      | refine LeO.bind ?_ (fun _ => ?_)
theorem impl_Sealed.mono : ∀ a0 a1 k, LeO (impl_Sealed.f k a0 a1) (impl_Sealed.f (k + 1) a0 a1) := by
  intro a0 a1 k
  obtain ⟨ih0, ih1⟩ := impl_Sealed.mono_l k
  unfold impl_Sealed.f
  repeat' first
      | (with_reducible exact ih0 _ _ _)
      | (with_reducible exact ih1 _ _ _ _)
      | (with_reducible exact impl_RecordBytes.mono _ _ _ _ _)
      | (with_reducible exact LeO.refl _)
      | (with_reducible exact LeO.none _)
      | (with_reducible refine LeO.ite ?_ ?_)
      | (with_reducible refine LeO.bind ?_ (fun _ => ?_))
      | exact ih0 _ _ _
      | exact ih1 _ _ _ _
      | exact impl_RecordBytes.mono _ _ _ _ _
      | exact LeO.none _
      | refine LeO.ite ?_ ?_
      | refine LeO.bind ?_ (fun _ => ?_)
set_option maxHeartbeats 8000000 in
set_option maxRecDepth 100000 in
theorem impl_Sealed.calls (k : Nat) (a0 : Int) (P1_ : Nat → Prop) (A1 : Option Addr) (c1 : Nat) (l1 : List Int) (r : List Int) (w : World) (hs1 : Kd.V (Kd.int .u8) 5 w w.heap.size (fun k_ => P1_ k_) (.slice A1 l1.length c1) l1) (h : impl_Sealed.f k a0 l1 = some r) :
    Calls Try.prog 28 #[.int .i64 a0, .slice A1 l1.length c1] w fun e w' => ∃ v0_ : Value, e = .returned (v0_) ∧ Kd.R (Kd.int .u8) 5 w' w.heap.size (fun k_ => (w.heap.size ≤ k_)) v0_ r ∧ Below w.heap.size w w' := by
  have HO1 := Aside0.mk (show Kd.V (Kd.int .u8) 5 w w.heap.size (fun k_ => (P1_ k_ ∨ w.heap.size ≤ k_)) (.slice A1 l1.length c1) l1 from Kd.V_mono hs1 (fun k_ hk => .inl hk))
  have HB := Aside0.mk (Below.refl w.heap.size w)
  have H : ((impl_sealOk.f a0 0 ([] : List Int)).bind fun t210 => (if t210 = true then (impl_Sealed.j0 k a0 l1 (decide ((l1.length : Int) > 1000))) else (impl_Sealed.j0 k a0 l1 true))) = some r := h
  clear h
  have HC3 := Aside0.mk H
  clear H
  go_enter Try.func28, Try.ntmps28
  go_upto_region 1 with (fail)
  go_cut [14] (fun v14 wc => ∃ (kq : Nat) (x14_2 : Bool), v14 = .bool x14_2 ∧ Aside0 (impl_Sealed.j0 kq a0 l1 x14_2 = some r) ∧ Aside0 (kq ≤ k) ∧ Aside0 (Kd.V (Kd.int .u8) 5 wc w.heap.size (fun k_ => (P1_ k_ ∨ w.heap.size ≤ k_)) (.slice A1 l1.length c1) l1) ∧ Aside0 (Below w.heap.size w wc))
  case first =>
    have H := HC3.out
    clear HC3
    replace H := Option.bind_eq_some_iff.mp H
    obtain ⟨t210, A40, H⟩ := H
    replace H : (if t210 = true then (impl_Sealed.j0 k a0 l1 (decide ((l1.length : Int) > 1000))) else (impl_Sealed.j0 k a0 l1 true)) = some r := H
    have A4 := Aside0.mk A40
    clear A40
    by_cases c5 : t210 = true
    · subst c5
      have H1 : (impl_Sealed.j0 k a0 l1 (decide ((l1.length : Int) > 1000))) = some r := by rw [if_pos rfl] at H; exact H
      clear H
      have H := H1
      clear H1
      have H' := Aside0.mk H
      clear H
      go_wp2_with (first | ((with_reducible refine gate_callee (f := 42) rfl ?_); refine goesL_ (some 8) rfl rfl Try.func42 (by kernel_rfl) rfl #[.int .i64 a0, .int .i64 0, .slice none 0 0] rfl (by (try simp only [List.map_toArray, List.map_cons, List.map_nil]); first | done | rfl | (simp only [List.length_drop, List.length_take]; rfl)) ?_; (refine (impl_sealOk.calls a0 0 _ _ ([] : List Int) true _ ?side1 ?side2 A4.out).mono ?_); (case side1 => exact Kd.C_nil _ _); (case side2 => exact Nat.le_refl _); rintro e w' ⟨rfl, ⟨nd, rfl⟩⟩; refine ⟨_, rfl, ?_⟩))
      go_meet
      case rel => exact ⟨_, (decide ((l1.length : Int) > 1000)), (by first | rfl | (simp; done) | (simp [*]; done)), H', ⟨by first | omega | exact Nat.le_refl _⟩, ⟨by (with_reducible repeat (first | apply Kd.V_alloc | apply Kd.V_drewN | apply Kd.V_drew)); exact HO1.out⟩, ⟨by repeat (first | (with_reducible first | exact HB.out | apply below_alloc | apply pw_below_drewN | apply below_drew1) | exact HB.out)⟩⟩
    · replace c5 := Bool.eq_false_iff.mpr c5
      subst c5
      have H1 : (impl_Sealed.j0 k a0 l1 true) = some r := by rw [if_neg (show ¬ (false = true) by decide)] at H; exact H
      clear H
      have H := H1
      clear H1
      have H' := Aside0.mk H
      clear H
      go_wp2_with (first | ((with_reducible refine gate_callee (f := 42) rfl ?_); refine goesL_ (some 8) rfl rfl Try.func42 (by kernel_rfl) rfl #[.int .i64 a0, .int .i64 0, .slice none 0 0] rfl (by (try simp only [List.map_toArray, List.map_cons, List.map_nil]); first | done | rfl | (simp only [List.length_drop, List.length_take]; rfl)) ?_; (refine (impl_sealOk.calls a0 0 _ _ ([] : List Int) false _ ?side1 ?side2 A4.out).mono ?_); (case side1 => exact Kd.C_nil _ _); (case side2 => exact Nat.le_refl _); rintro e w' ⟨rfl, ⟨nd, rfl⟩⟩; refine ⟨_, rfl, ?_⟩))
      go_meet
      case rel => exact ⟨_, (true), (by first | rfl | (simp; done) | (simp [*]; done)), H', ⟨by first | omega | exact Nat.le_refl _⟩, ⟨by (with_reducible repeat (first | apply Kd.V_alloc | apply Kd.V_drewN | apply Kd.V_drew)); exact HO1.out⟩, ⟨by repeat (first | (with_reducible first | exact HB.out | apply below_alloc | apply pw_below_drewN | apply below_drew1) | exact HB.out)⟩⟩
  case rest =>
    clear HC3
    try clear c1
    try clear c2
    try clear p2
    try clear c4
    try clear c5
    obtain ⟨kq, x14_2, rfl, HA, HJ2, HO_1, HB⟩ := hcut
    cases kq with
    | zero => exact absurd HA.out (by simp [impl_Sealed.j0])
    | succ kj2 =>
      have H := HA.out
      clear HA
      simp only [impl_Sealed.j0] at H
      by_cases c6 : x14_2 = true
      · subst c6
        have H1 : (some ([] : List Int)) = some r := by rw [if_pos rfl] at H; exact H
        clear H
        have H := H1
        clear H1
        obtain rfl := Option.some.inj H
        go_wp2
        go_ret
        exact ⟨_, by first | rfl | (simp [errW_none, errW_some] <;> rfl) | (simp [*, errW_none, errW_some] <;> rfl), by first | exact Kd.R_nil _ _ _ _ _ | exact Kd.N_nil _ _ _ _ _ | exact Kd.V_nil _ _ _ _ _ | exact Kd.Q_nil _ _ _ _ _ | exact Kd.S_nil _ _ _ _ _, by repeat (first | (with_reducible first | exact HB.out | apply below_alloc | apply pw_below_drewN | apply below_drew1) | exact HB.out)⟩
      · replace c6 := Bool.eq_false_iff.mpr c6
        subst c6
        have H1 : (impl_Sealed.l0 kj2 a0 l1 ([] : List Int) 0) = some r := by rw [if_neg (show ¬ (false = true) by decide)] at H; exact H
        clear H
        have H := H1
        clear H1
        have H' := Aside0.mk H
        clear H
        go_wp2
        go_loopg [1, 5, 6] kj2 (fun kq v1 v5 v6 w' => ∃ (x1_2 : List Int) (x5_2 : List Int) (x6_2 : Int), v6 = .int .i64 x6_2 ∧ Aside0 (impl_Sealed.l0 kq a0 x1_2 x5_2 x6_2 = some r) ∧ Aside0 (kq ≤ kj2) ∧ Aside0 (Kd.V (Kd.int .u8) 5 w' w.heap.size (fun k_ => (P1_ k_ ∨ w.heap.size ≤ k_) ∧ some k_ ≠ (v5 : Value).ownBlock) v1 x1_2) ∧ Aside0 (Kd.R (Kd.int .u8) 5 w' w.heap.size (fun k_ => (w.heap.size ≤ k_)) v5 x5_2) ∧ Aside0 (Below w.heap.size w w'))
        case atStart => exact ⟨(l1), (([] : List Int)), (0), (by first | rfl | (simp; done) | (simp [*]; done)), H', ⟨Nat.le_refl _⟩, ⟨by (with_reducible repeat (first | apply Kd.V_alloc | apply Kd.V_drewN | apply Kd.V_drew)); exact Kd.V_mono HO_1.out (fun _ hk => ⟨hk, (by simp [Value.ownBlock])⟩)⟩, ⟨by first | exact Kd.R_nil _ _ _ _ _ | exact Kd.N_nil _ _ _ _ _ | exact Kd.V_nil _ _ _ _ _ | exact Kd.Q_nil _ _ _ _ _ | exact Kd.S_nil _ _ _ _ _⟩, ⟨by repeat (first | (with_reducible first | exact HB.out | apply below_alloc | apply pw_below_drewN | apply below_drew1) | exact HB.out)⟩⟩
        case round =>
          clear H'
          try clear c1
          try clear c2
          try clear p2
          try clear c4
          try clear c5
          try clear c6
          try clear p2
          obtain ⟨x1_2, x5_2, x6_2, rfl, HA, HK2, HO_1, HO_5, HB⟩ := hrel
          cases gk with
          | zero => exact absurd HA.out (by simp [impl_Sealed.l0])
          | succ k2 =>
            have H := HA.out
            clear HA
            simp only [impl_Sealed.l0] at H
            by_cases c7 : (x1_2.length : Int) > 10
            · rw [if_pos c7] at H
              have c7b0 : decide (10 < (x1_2.length : Int)) = true := decide_eq_true c7
              have c7b1 : decide (10 < x1_2.length) = true := decide_eq_true (by omega)
              clear c7
              by_cases c8 : 10 ≤ (x1_2.length : Int)
              · rw [if_pos c8] at H
                have c8b0 := eq_true c8
                have c8b1 : decide (10 ≤ (x1_2.length : Int)) = true := decide_eq_true c8
                clear c8
                obtain ⟨y211, hy211⟩ : ∃ y_ : List Int, y_ = (x1_2.take 10) := ⟨_, rfl⟩
                replace H : ((impl_RecordBytes.f k2 a0 x6_2 y211 false).bind fun t216 => (if x5_2.length + t216.length < 140737488355328 then (impl_Sealed.l0 k2 a0 (x1_2.drop 10) (x5_2 ++ t216) (wrap64 (x6_2 + 1))) else (none))) = some r := by first | (rw [hy211]; with_reducible exact H) | (have H2_ := (Option.bind_some _ _).symm.trans H; rw [hy211]; with_reducible exact H2_) | (have H2_ := (Option.bind_some _ _).symm.trans H; with_reducible exact H2_) | with_reducible exact H | (rw [hy211]; exact H) | exact H
                have Ny211 := Aside0.mk hy211
                clear hy211
                replace H := Option.bind_eq_some_iff.mp H
                obtain ⟨t216, A90, H⟩ := H
                replace H : (if x5_2.length + t216.length < 140737488355328 then (impl_Sealed.l0 k2 a0 (x1_2.drop 10) (x5_2 ++ t216) (wrap64 (x6_2 + 1))) else (none)) = some r := H
                have A9 := Aside0.mk A90
                clear A90
                by_cases c10 : x5_2.length + t216.length < 140737488355328
                · rw [if_pos c10] at H
                  have LMc10 := Aside0.mk c10
                  clear c10
                  obtain ⟨y219, hy219⟩ : ∃ y_ : List Int, y_ = (x5_2 ++ t216) := ⟨_, rfl⟩
                  replace H : (impl_Sealed.l0 k2 a0 (x1_2.drop 10) y219 (wrap64 (x6_2 + 1))) = some r := by first | (rw [hy219]; with_reducible exact H) | (have H2_ := (Option.bind_some _ _).symm.trans H; rw [hy219]; with_reducible exact H2_) | (have H2_ := (Option.bind_some _ _).symm.trans H; with_reducible exact H2_) | with_reducible exact H | (rw [hy219]; exact H) | exact H
                  have Ny219 := Aside0.mk hy219
                  clear hy219
                  have c11b0 := eq_true (of_decide_eq_true (by first | (with_reducible assumption) | assumption) : 10 ≤ (x1_2.length : Int))
                  obtain ⟨y222, hy222⟩ : ∃ y_ : List Int, y_ = (x1_2.drop 10) := ⟨_, rfl⟩
                  replace H : (impl_Sealed.l0 k2 a0 y222 y219 (wrap64 (x6_2 + 1))) = some r := by first | (rw [hy222]; with_reducible exact H) | (have H2_ := (Option.bind_some _ _).symm.trans H; rw [hy222]; with_reducible exact H2_) | (have H2_ := (Option.bind_some _ _).symm.trans H; with_reducible exact H2_) | with_reducible exact H | (rw [hy222]; exact H) | exact H
                  have Ny222 := Aside0.mk hy222
                  clear hy222
                  have H' := Aside0.mk H
                  clear H
                  obtain ⟨Ao12, co12, eo12⟩ := Kd.V_slice HO_1.out
                  subst eo12
                  have q13 : (10 : Int) ≤ ((x1_2.length : Int) : Int) := of_decide_eq_true (by first | (with_reducible assumption) | assumption)
                  obtain ⟨i013, hi013, _, hsz13, _⟩ := info_parts info5
                  have hroom13 : x1_2.length ≤ co12 := (Kd.V_reads' HO_1.out).2.1
                  have hC13 : Kd.F (Kd.int .u8) _ _ Ao12 x1_2.length x1_2 := (Kd.V_at (base := w.heap.size) HO_1.out).2.2
                  have hcut13 := cut_to (P := Try.prog) 22 5 .i64 Try.underlying22 hi013 Ao12 x1_2.length co12 10 (by omega) q13 hroom13
                  have hr13 := Kd.F_take (m := 10) hC13 (by omega)
                  have hy13 : y211.length = (10 : Int).toNat := (by rw [Ny211.out, List.length_take]; omega)
                  rw [← Ny211.out] at hr13
                  rw [← hy13] at hcut13
                  have HO215 := Aside0.mk (show Kd.V (Kd.int .u8) 5 _ w.heap.size _ (.slice Ao12 y211.length co12) y211 from Kd.V_mk (by omega) hr13)
                  have HC215 := Aside0.mk (show y211.length ≤ co12 from by omega)
                  clear hr13 hC13 hroom13 hi013 hsz13
                  have KY13 := Aside0.mk hy13
                  clear hy13
                  replace q13 := eq_true q13
                  go_wp2_with (first | ((with_reducible refine gate_callee (f := 22) rfl ?_); refine goesL_ (some 25) rfl rfl Try.func22 (by kernel_rfl) rfl #[.int .i64 a0, .int .i64 x6_2, .slice Ao12 y211.length co12, .bool false] rfl (by (try simp only [List.map_toArray, List.map_cons, List.map_nil]); first | done | rfl | (simp only [List.length_drop, List.length_take]; rfl)) ?_; (with_reducible refine (impl_RecordBytes.calls k2 a0 x6_2 _ _ y211 false t216 _ ?side1 ?side2 A9.out).mono ?_); (case side1 => repeat (first | exact (Kd.V_reads' HO215.out).2.2 | (with_reducible refine Kd.C_alloc ?_ _) | (with_reducible refine Kd.C_drewN ?_ _) | (with_reducible refine Kd.C_drew ?_))); (case side2 => exact (Kd.V_reads' HO215.out).2.1); rintro e w14 ⟨v217, rfl, ho0, hb⟩; refine ⟨_, rfl, ?_⟩; have n0_ := Aside0.mk (Kd.V_elder' (by (with_reducible repeat (first | apply Kd.V_alloc | apply Kd.V_drewN | apply Kd.V_drew)); exact HO_1.out) (Kd.R_base ho0) hb); have n1_ := Aside0.mk (Kd.R_elder' (by (with_reducible repeat (first | apply Kd.R_alloc | apply Kd.R_drewN | apply Kd.R_drew)); exact HO_5.out) (Kd.R_base ho0) hb); have n2_ := Aside0.mk (Kd.V_elder' (by (with_reducible repeat (first | apply Kd.V_alloc | apply Kd.V_drewN | apply Kd.V_drew)); exact HO215.out) (Kd.R_base ho0) hb); have n3_ := Aside0.mk (Kd.R_lower (Kd.R_new' (Kd.R_newM (M := fun k_ => (w.heap.size ≤ k_)) ho0 (below_size (by repeat (first | (with_reducible first | exact HB.out | apply below_alloc | apply pw_below_drewN | apply below_drew1) | exact HB.out))) (fun k_ h_ => h_)) (Kd.R_lt (by (with_reducible repeat (first | apply Kd.R_alloc | apply Kd.R_drewN | apply Kd.R_drew)); exact HO_5.out))) (below_size (by repeat (first | (with_reducible first | exact HB.out | apply below_alloc | apply pw_below_drewN | apply below_drew1) | exact HB.out)))); have n4_ := Aside0.mk (below_step (by repeat (first | (with_reducible first | exact HB.out | apply below_alloc | apply pw_below_drewN | apply below_drew1) | exact HB.out)) hb); clear HO_1; clear HO_5; clear HO215; clear HB; have HO_1 := n0_; have HO_5 := n1_; have HO215 := n2_; have HO218 := n3_; have HB := n4_; clear n0_ n1_ n2_ n3_ n4_; (try clear hb); (try clear hb2); (try clear hk); (try clear hi); (try clear ho0); obtain ⟨Ao16, co16, eo16⟩ := Kd.R_slice HO218.out; subst eo16) | ((with_reducible refine gate_builtin (b := .append) (xs := #[.tmp 20, .tmp 25]) rfl ?_); at_builtin; refine Kd.R_append_rows (Kd.int .u8) (w0 := w) w.heap.size rfl (.tmp 20) (.tmp 25) 22 5 (.int .u8 0) 1 rfl Try.underlying22 info5 rfl (by decide) (by omega) u5 x5_2 t216 _ _ _ (fun k_ => (w.heap.size ≤ k_) ∧ some k_ ≠ (.slice Ao16 t216.length co16 : Value).ownBlock) (fun _ => False) rfl rfl ?aO ?aR (fun _ _ h => h) (fun _ h => h.elim) ?aF ?aB ?aS ?aL ?_; (case aR => repeat (first | exact (Kd.R_reads' HO218.out).2.2 | (with_reducible refine Kd.C_alloc ?_ _) | (with_reducible refine Kd.C_drewN ?_ _) | (with_reducible refine Kd.C_drew ?_))); (case aB => exact (by repeat (first | (with_reducible first | exact HB.out | apply below_alloc | apply pw_below_drewN | apply below_drew1) | exact HB.out))); (case aF => exact (fun k_ hk => ⟨(Nat.le_trans (below_size (by repeat (first | (with_reducible first | exact HB.out | apply below_alloc | apply pw_below_drewN | apply below_drew1) | exact HB.out))) hk), Kd.fresh' (Kd.R_lt (by (with_reducible repeat (first | apply Kd.R_alloc | apply Kd.R_drewN | apply Kd.R_drew)); exact HO218.out)) k_ hk⟩)); (case aO => exact (by (with_reducible repeat (first | apply Kd.R_alloc | apply Kd.R_drewN | apply Kd.R_drew)); exact HO_5.out)); (case aS => exact (below_size (by repeat (first | (with_reducible first | exact HB.out | apply below_alloc | apply pw_below_drewN | apply below_drew1) | exact HB.out)))); (case aL => have := LMc10.out; omega); intro v220 w15 ho hb hg hat; rw [← Ny219.out] at ho; have n0_ := Aside0.mk (Kd.V_afterv (ok := (fun k_ => (P1_ k_ ∨ w.heap.size ≤ k_) ∧ some k_ ≠ (.slice Ao16 t216.length co16 : Value).ownBlock)) (by (with_reducible repeat (first | apply Kd.V_alloc | apply Kd.V_drewN | apply Kd.V_drew)); exact Kd.V_mono HO_1.out (fun _ hk => ⟨⟨hk.1.1, hk.2⟩, hk.1.2⟩)) hg hat); have n1_ := Aside0.mk (Kd.V_afterv (ok := (fun k_ => (P1_ k_ ∨ w.heap.size ≤ k_) ∧ some k_ ≠ (.slice Ao16 t216.length co16 : Value).ownBlock)) (by (with_reducible repeat (first | apply Kd.V_alloc | apply Kd.V_drewN | apply Kd.V_drew)); exact Kd.V_mono HO215.out (fun _ hk => ⟨⟨hk.1.1, hk.2⟩, hk.1.2⟩)) hg hat); have n2_ := Aside0.mk (Kd.R_after (ok := (fun k_ => (w.heap.size ≤ k_))) (by (with_reducible repeat (first | apply Kd.R_alloc | apply Kd.R_drewN | apply Kd.R_drew)); exact Kd.R_mono HO218.out (fun _ hk => ⟨hk.1.1, hk.2⟩)) hg hat); have n3_ := Aside0.mk (hb); have n4_ := Aside0.mk (ho); clear HO_1; clear HO215; clear HO218; clear HB; clear HO_5; have HO_1 := n0_; have HO215 := n1_; have HO218 := n2_; have HB := n3_; have HO221 := n4_; clear n0_ n1_ n2_ n3_ n4_; clear ho hb hg hat; have q17 : (10 : Int) ≤ ((x1_2.length : Int) : Int) := of_decide_eq_true (by first | (with_reducible assumption) | assumption); obtain ⟨i017, hi017, _, hsz17, _⟩ := info_parts info5; have hroom17 : x1_2.length ≤ co12 := (Kd.V_reads' HO_1.out).2.1; have hC17 : Kd.F (Kd.int .u8) _ _ Ao12 x1_2.length x1_2 := (Kd.V_at (base := w.heap.size) HO_1.out).2.2; have hcut17 := cut_from (P := Try.prog) 22 5 .i64 Try.underlying22 hi017 1 hsz17 Ao12 x1_2.length co12 10 (by omega) q17; have hr17 := Kd.F_cut (m := (10 : Int).toNat) (c := co12) hC17 (by omega) hroom17; obtain ⟨A17, hA17⟩ : ∃ A1, A1 = (if co12 = (10 : Int).toNat then Ao12 else (Ao12 : Option Addr).map (·.add ((10 : Int).toNat * 1))) := ⟨_, rfl⟩; obtain ⟨c17, hc17⟩ : ∃ c1, c1 = co12 - (10 : Int).toNat := ⟨_, rfl⟩; have hy17 : y222.length = x1_2.length - (10 : Int).toNat := (by rw [Ny222.out, List.length_drop] <;> omega); rw [show (x1_2).drop (10 : Int).toNat = y222 from Ny222.out.symm] at hr17; replace hr17 : Kd.F (Kd.int .u8) _ _ A17 y222.length y222 := (by rw [hA17]; exact hr17); rw [← hy17, ← hA17, ← hc17] at hcut17; have HO226 := Aside0.mk (show Kd.V (Kd.int .u8) 5 _ w.heap.size _ (.slice A17 y222.length c17) y222 from Kd.V_mk (by rw [hy17, hc17]; exact Nat.sub_le_sub_right hroom17 _) hr17); have HC226 := Aside0.mk (show y222.length ≤ c17 from by rw [hy17, hc17]; exact Nat.sub_le_sub_right hroom17 _); clear hr17 hC17 hroom17 hi017 hsz17 hc17; have KY17 := Aside0.mk hy17; have KA17 := Aside0.mk hA17; clear hy17 hA17; replace q17 := eq_true q17))
                  go_roundg k2
                  case measure => have := HJ2.out; have := HK2.out; omega
                  case rel => exact ⟨(y222), (y219), (wrap64 (x6_2 + 1)), (by first | rfl | (simp; done) | (simp [*]; done)), H', ⟨by have := HJ2.out; have := HK2.out; omega⟩, ⟨by (with_reducible repeat (first | apply Kd.V_alloc | apply Kd.V_drewN | apply Kd.V_drew)); exact Kd.V_mono HO226.out (fun _ hk => ⟨hk.1.1, hk.2⟩)⟩, ⟨by (with_reducible repeat (first | apply Kd.R_alloc | apply Kd.R_drewN | apply Kd.R_drew)); exact Kd.R_mono HO221.out (fun _ hk => hk.1)⟩, ⟨by repeat (first | (with_reducible first | exact HB.out | apply below_alloc | apply pw_below_drewN | apply below_drew1) | exact HB.out)⟩⟩
                · rw [if_neg c10] at H
                  exact absurd H (by simp)
              · rw [if_neg c8] at H
                exact absurd H (by simp)
            · rw [if_neg c7] at H
              have c7b0 : decide (10 < (x1_2.length : Int)) = false := decide_eq_false c7
              have c7b1 : decide (10 < x1_2.length) = false := decide_eq_false (by omega)
              clear c7
              replace H := Option.bind_eq_some_iff.mp H
              obtain ⟨t227, A180, H⟩ := H
              replace H : (if x5_2.length + t227.length < 140737488355328 then (some (x5_2 ++ t227)) else (none)) = some r := H
              have A18 := Aside0.mk A180
              clear A180
              by_cases c19 : x5_2.length + t227.length < 140737488355328
              · rw [if_pos c19] at H
                have LMc19 := Aside0.mk c19
                clear c19
                obtain ⟨y230, hy230⟩ : ∃ y_ : List Int, y_ = (x5_2 ++ t227) := ⟨_, rfl⟩
                replace H : (some y230) = some r := by first | (rw [hy230]; with_reducible exact H) | (have H2_ := (Option.bind_some _ _).symm.trans H; rw [hy230]; with_reducible exact H2_) | (have H2_ := (Option.bind_some _ _).symm.trans H; with_reducible exact H2_) | with_reducible exact H | (rw [hy230]; exact H) | exact H
                have Ny230 := Aside0.mk hy230
                clear hy230
                obtain rfl := Option.some.inj H
                obtain ⟨Ao20, co20, eo20⟩ := Kd.V_slice HO_1.out
                subst eo20
                obtain ⟨Ax_, cx_, ex_⟩ := Kd.R_slice HO_5.out
                subst ex_
                go_wp2_with (first | ((with_reducible refine gate_callee (f := 22) rfl ?_); refine goesL_ (some 33) rfl rfl Try.func22 (by kernel_rfl) rfl #[.int .i64 a0, .int .i64 x6_2, .slice Ao20 x1_2.length co20, .bool true] rfl (by (try simp only [List.map_toArray, List.map_cons, List.map_nil]); first | done | rfl | (simp only [List.length_drop, List.length_take]; rfl)) ?_; (with_reducible refine (impl_RecordBytes.calls k2 a0 x6_2 _ _ x1_2 true t227 _ ?side1 ?side2 A18.out).mono ?_); (case side1 => repeat (first | exact (Kd.V_reads' HO_1.out).2.2 | (with_reducible refine Kd.C_alloc ?_ _) | (with_reducible refine Kd.C_drewN ?_ _) | (with_reducible refine Kd.C_drew ?_))); (case side2 => exact (Kd.V_reads' HO_1.out).2.1); rintro e w21 ⟨v228, rfl, ho0, hb⟩; refine ⟨_, rfl, ?_⟩; have n0_ := Aside0.mk (Kd.V_elder' (by (with_reducible repeat (first | apply Kd.V_alloc | apply Kd.V_drewN | apply Kd.V_drew)); exact HO_1.out) (Kd.R_base ho0) hb); have n1_ := Aside0.mk (Kd.R_elder' (by (with_reducible repeat (first | apply Kd.R_alloc | apply Kd.R_drewN | apply Kd.R_drew)); exact HO_5.out) (Kd.R_base ho0) hb); have n2_ := Aside0.mk (Kd.R_lower (Kd.R_new' (Kd.R_newM (M := fun k_ => (w.heap.size ≤ k_)) ho0 (below_size (by repeat (first | (with_reducible first | exact HB.out | apply below_alloc | apply pw_below_drewN | apply below_drew1) | exact HB.out))) (fun k_ h_ => h_)) (Kd.R_lt (by (with_reducible repeat (first | apply Kd.R_alloc | apply Kd.R_drewN | apply Kd.R_drew)); exact HO_5.out))) (below_size (by repeat (first | (with_reducible first | exact HB.out | apply below_alloc | apply pw_below_drewN | apply below_drew1) | exact HB.out)))); have n3_ := Aside0.mk (below_step (by repeat (first | (with_reducible first | exact HB.out | apply below_alloc | apply pw_below_drewN | apply below_drew1) | exact HB.out)) hb); clear HO_1; clear HO_5; clear HB; have HO_1 := n0_; have HO_5 := n1_; have HO229 := n2_; have HB := n3_; clear n0_ n1_ n2_ n3_; (try clear hb); (try clear hb2); (try clear hk); (try clear hi); (try clear ho0); obtain ⟨Ao23, co23, eo23⟩ := Kd.R_slice HO229.out; subst eo23) | (go_at_call 51; (refine (slices_Concat_byte_byte.calls2 x5_2 t227 LMc19.out (Kd.K_of_row HO_5.out) (Kd.K_of_row HO229.out)).mono ?_); rintro e w22 ⟨v_, rfl, ho0, hb⟩; rw [← Ny230.out] at ho0; have n0_ := Aside0.mk (Kd.R_lower (Kd.R_newM (M := fun k_ => (w.heap.size ≤ k_)) ho0 (below_size (by repeat (first | (with_reducible first | exact HB.out | apply below_alloc | apply pw_below_drewN | apply below_drew1) | exact HB.out))) (fun k_ h_ => h_)) (below_size (by repeat (first | (with_reducible first | exact HB.out | apply below_alloc | apply pw_below_drewN | apply below_drew1) | exact HB.out)))); have n1_ := Aside0.mk (below_step (by repeat (first | (with_reducible first | exact HB.out | apply below_alloc | apply pw_below_drewN | apply below_drew1) | exact HB.out)) hb); clear HB; have HO232 := n0_; have HB := n1_; clear n0_ n1_; clear hb ho0))
                go_ret
                exact ⟨_, by first | rfl | (simp [errW_none, errW_some] <;> rfl) | (simp [*, errW_none, errW_some] <;> rfl), by (with_reducible repeat (first | apply Kd.R_alloc | apply Kd.R_drewN | apply Kd.R_drew)); exact Kd.R_mono HO232.out (fun _ hk => hk.1), by repeat (first | (with_reducible first | exact HB.out | apply below_alloc | apply pw_below_drewN | apply below_drew1) | exact HB.out)⟩
              · rw [if_neg c19] at H
                exact absurd H (by simp)

end Go.Proofs.Ytgabediginlabaa.GFnExactSealed
