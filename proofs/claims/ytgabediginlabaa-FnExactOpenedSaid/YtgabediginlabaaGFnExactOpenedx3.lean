/- What the Go functions that FnExactOpened reaches come to, walked step by step; there is no condition beyond those each statement names. -/
import Derived.Test.YtgabediginlabaaGFnExactOpenedx0
import Derived.Test.YtgabediginlabaaGFnExactOpenedx2
namespace Go.Proofs.Ytgabediginlabaa.GFnExactOpened
open Go.RowKit Go.Proofs.YtgabediginlabaaU.PrintWords Go.Proofs.YtgabediginlabaaU.PrintLast Go.Proofs.YtgabediginlabaaU.PrintMore
attribute [local go_sem] max2_int min2_int max_two min_two max_three min_three max_four min_four   -- for this text's walks alone
set_option linter.unusedVariables false
set_option linter.unusedSimpArgs false

/-! ### impl_SealOf: function 17 -/
def impl_SealOf.l0 : Nat → Int → Int → List Int → Int → Int → Option (Int)
  | 0, _, _, _, _, _ => none
  | k + 1, x0, x9, x25, x26, x27 => if x27 < x26 then (if 0 ≤ x27 then (if x27 < (x25.length : Int) then (impl_SealOf.l0 k x0 (Int.tmod (wrap64 ((wrap64 ((wrap64 (x9 * x0)) + (wrap64 (rd x25 x27)))) + 1)) 65521) x25 x26 (wrap64 (x27 + 1))) else (none)) else (none)) else (some (Int.tmod (wrap64 (x9 * x0)) 65521))
def impl_SealOf.f (k : Nat) (a0 : Int) (a1 : Int) (l2 : List Int) (a3 : Bool) : Option (Int) := (impl_sealOk.f a0 a1 l2).bind fun t158 => (if t158 = true then ((some (([] : List Int) : List Int)).bind fun y159 => (if y159.length + l2.length < 140737488355328 then ((some (y159 ++ l2 : List Int)).bind fun y162 => ((impl_bit.f a3 1).bind fun t165 => (if y162.length < 140737488355328 then ((some (y162 ++ [(t165) % 256] : List Int)).bind fun y166 => (impl_SealOf.l0 k a0 (wrap64 (a1 + 1)) y166 (y166.length : Int) 0)) else (none)))) else (none))) else (some (-1)))
theorem impl_SealOf.mono_l : ∀ k, (∀ y0 y1 y2 y3 y4, LeO (impl_SealOf.l0 k y0 y1 y2 y3 y4) (impl_SealOf.l0 (k + 1) y0 y1 y2 y3 y4))
  | 0 => fun _ _ _ _ _ r h => by simp [impl_SealOf.l0] at h
  | k + 1 => by
    have ih0 := impl_SealOf.mono_l k
    · intro y0 y1 y2 y3 y4
      unfold impl_SealOf.l0
      repeat' first
      | (with_reducible exact ih0 _ _ _ _ _)
      | (with_reducible exact LeO.refl _)
      | (with_reducible exact LeO.none _)
      | (with_reducible refine LeO.ite ?_ ?_)
      | (with_reducible refine LeO.bind ?_ (fun _ => ?_))
      | exact ih0 _ _ _ _ _
      | exact LeO.none _
      | refine LeO.ite ?_ ?_
      | refine LeO.bind ?_ (fun _ => ?_)
theorem impl_SealOf.mono : ∀ a0 a1 a2 a3 k, LeO (impl_SealOf.f k a0 a1 a2 a3) (impl_SealOf.f (k + 1) a0 a1 a2 a3) := by
  intro a0 a1 a2 a3 k
  have ih0 := impl_SealOf.mono_l k
  unfold impl_SealOf.f
  repeat' first
      | (with_reducible exact ih0 _ _ _ _ _)
      | (with_reducible exact LeO.refl _)
      | (with_reducible exact LeO.none _)
      | (with_reducible refine LeO.ite ?_ ?_)
      | (with_reducible refine LeO.bind ?_ (fun _ => ?_))
      | exact ih0 _ _ _ _ _
      | exact LeO.none _
      | refine LeO.ite ?_ ?_
      | refine LeO.bind ?_ (fun _ => ?_)
set_option maxHeartbeats 8000000 in
set_option maxRecDepth 100000 in
theorem impl_SealOf.calls (k : Nat) (a0 : Int) (a1 : Int) (A2 : Option Addr) (c2 : Nat) (l2 : List Int) (a3 : Bool) (r : Int) (w : World) (hr2 : Kd.C (Kd.int .u8) w A2 l2.length l2) (hc2 : l2.length ≤ c2) (h : impl_SealOf.f k a0 a1 l2 a3 = some r) :
    Calls Try.prog 17 #[.int .i64 a0, .int .i64 a1, .slice A2 l2.length c2, .bool a3] w fun e w' => e = .returned (.int .i64 r) ∧ Below w.heap.size w w' := by
  have HR2 := Aside0.mk hr2
  have HC2 := Aside0.mk hc2
  clear hr2 hc2
  have HB := Aside0.mk (Below.refl w.heap.size w)
  have H : ((impl_sealOk.f a0 a1 l2).bind fun t158 => (if t158 = true then ((some (([] : List Int) : List Int)).bind fun y159 => (if y159.length + l2.length < 140737488355328 then ((some (y159 ++ l2 : List Int)).bind fun y162 => ((impl_bit.f a3 1).bind fun t165 => (if y162.length < 140737488355328 then ((some (y162 ++ [(t165) % 256] : List Int)).bind fun y166 => (impl_SealOf.l0 k a0 (wrap64 (a1 + 1)) y166 (y166.length : Int) 0)) else (none)))) else (none))) else (some (-1)))) = some r := h
  clear h
  replace H := Option.bind_eq_some_iff.mp H
  obtain ⟨t158, A50, H⟩ := H
  replace H : (if t158 = true then ((some (([] : List Int) : List Int)).bind fun y159 => (if y159.length + l2.length < 140737488355328 then ((some (y159 ++ l2 : List Int)).bind fun y162 => ((impl_bit.f a3 1).bind fun t165 => (if y162.length < 140737488355328 then ((some (y162 ++ [(t165) % 256] : List Int)).bind fun y166 => (impl_SealOf.l0 k a0 (wrap64 (a1 + 1)) y166 (y166.length : Int) 0)) else (none)))) else (none))) else (some (-1))) = some r := H
  have A5 := Aside0.mk A50
  clear A50
  by_cases c6 : t158 = true
  · subst c6
    have H1 : ((some (([] : List Int) : List Int)).bind fun y159 => (if y159.length + l2.length < 140737488355328 then ((some (y159 ++ l2 : List Int)).bind fun y162 => ((impl_bit.f a3 1).bind fun t165 => (if y162.length < 140737488355328 then ((some (y162 ++ [(t165) % 256] : List Int)).bind fun y166 => (impl_SealOf.l0 k a0 (wrap64 (a1 + 1)) y166 (y166.length : Int) 0)) else (none)))) else (none))) = some r := by rw [if_pos rfl] at H; exact H
    clear H
    have H := H1
    clear H1
    obtain ⟨y159, hy159⟩ : ∃ y_ : List Int, y_ = (([] : List Int)) := ⟨_, rfl⟩
    replace H : (if y159.length + l2.length < 140737488355328 then ((some (y159 ++ l2 : List Int)).bind fun y162 => ((impl_bit.f a3 1).bind fun t165 => (if y162.length < 140737488355328 then ((some (y162 ++ [(t165) % 256] : List Int)).bind fun y166 => (impl_SealOf.l0 k a0 (wrap64 (a1 + 1)) y166 (y166.length : Int) 0)) else (none)))) else (none)) = some r := by first | (rw [hy159]; with_reducible exact H) | (have H2_ := (Option.bind_some _ _).symm.trans H; rw [hy159]; with_reducible exact H2_) | (have H2_ := (Option.bind_some _ _).symm.trans H; with_reducible exact H2_) | with_reducible exact H | (rw [hy159]; exact H) | exact H
    have Ny159 := Aside0.mk hy159
    clear hy159
    by_cases c7 : y159.length + l2.length < 140737488355328
    · rw [if_pos c7] at H
      have LMc7 := Aside0.mk c7
      clear c7
      obtain ⟨y162, hy162⟩ : ∃ y_ : List Int, y_ = (y159 ++ l2) := ⟨_, rfl⟩
      replace H : ((impl_bit.f a3 1).bind fun t165 => (if y162.length < 140737488355328 then ((some (y162 ++ [(t165) % 256] : List Int)).bind fun y166 => (impl_SealOf.l0 k a0 (wrap64 (a1 + 1)) y166 (y166.length : Int) 0)) else (none))) = some r := by first | (rw [hy162]; with_reducible exact H) | (have H2_ := (Option.bind_some _ _).symm.trans H; rw [hy162]; with_reducible exact H2_) | (have H2_ := (Option.bind_some _ _).symm.trans H; with_reducible exact H2_) | with_reducible exact H | (rw [hy162]; exact H) | exact H
      have Ny162 := Aside0.mk hy162
      clear hy162
      replace H := Option.bind_eq_some_iff.mp H
      obtain ⟨t165, A80, H⟩ := H
      replace H : (if y162.length < 140737488355328 then ((some (y162 ++ [(t165) % 256] : List Int)).bind fun y166 => (impl_SealOf.l0 k a0 (wrap64 (a1 + 1)) y166 (y166.length : Int) 0)) else (none)) = some r := H
      have A8 := Aside0.mk A80
      clear A80
      by_cases c9 : y162.length < 140737488355328
      · rw [if_pos c9] at H
        have LMc9 := Aside0.mk c9
        clear c9
        obtain ⟨y166, hy166⟩ : ∃ y_ : List Int, y_ = (y162 ++ [(t165) % 256]) := ⟨_, rfl⟩
        replace H : (impl_SealOf.l0 k a0 (wrap64 (a1 + 1)) y166 (y166.length : Int) 0) = some r := by first | (rw [hy166]; with_reducible exact H) | (have H2_ := (Option.bind_some _ _).symm.trans H; rw [hy166]; with_reducible exact H2_) | (have H2_ := (Option.bind_some _ _).symm.trans H; with_reducible exact H2_) | with_reducible exact H | (rw [hy166]; exact H) | exact H
        have Ny166 := Aside0.mk hy166
        clear hy166
        have H' := Aside0.mk H
        clear H
        have Hy_ := Aside0.mk (show y162 = l2 by rw [Ny162.out, Ny159.out]; rfl)
        have HL63_ := Aside0.mk (show l2.length ≤ 9223372036854775807 by have := LMc7.out; omega)
        go_enter Try.func17, Try.ntmps17
        go_wp2_with (first | ((with_reducible refine gate_callee (f := 42) rfl ?_); refine goesL_ (some 15) rfl rfl Try.func42 (by kernel_rfl) rfl #[.int .i64 a0, .int .i64 a1, .slice A2 l2.length c2] rfl (by (try simp only [List.map_toArray, List.map_cons, List.map_nil]); first | done | rfl | (simp only [List.length_drop, List.length_take]; rfl)) ?_; (with_reducible refine (impl_sealOk.calls a0 a1 _ _ l2 true _ ?side1 ?side2 A5.out).mono ?_); (case side1 => repeat (first | exact HR2.out | (with_reducible refine Kd.C_alloc ?_ _) | (with_reducible refine Kd.C_drewN ?_ _) | (with_reducible refine Kd.C_drew ?_))); (case side2 => exact HC2.out); rintro e w' ⟨rfl, ⟨nd, rfl⟩⟩; refine ⟨_, rfl, ?_⟩) | ((with_reducible refine gate_callee (f := 44) rfl ?_); refine goesL_ (some 22) rfl rfl Try.func44 (by kernel_rfl) rfl #[.bool a3, .int .i64 1] rfl (by (try simp only [List.map_toArray, List.map_cons, List.map_nil]); first | done | rfl | (simp only [List.length_drop, List.length_take]; rfl)) ?_; (with_reducible refine (impl_bit.calls a3 1 t165 _ A8.out).mono ?_); rintro e w' ⟨rfl, ⟨nd, rfl⟩⟩; refine ⟨_, rfl, ?_⟩) | (go_at_call 43; (with_reducible refine (slices_Clip_43.calls _ _ _ _ HC2.out HL63_.out).mono ?_); rintro e w' ⟨rfl, hw_⟩; subst hw_) | ((with_reducible refine gate_builtin (b := .append) (xs := #[.tmp 20, .tmp 24]) rfl ?_); at_builtin; refine Kd.R_append_read (Kd.int .u8) (w0 := w) w.heap.size rfl (.tmp 20) (.tmp 24) 22 5 (.int .u8 0) 1 rfl Try.underlying22 info5 rfl (by decide) (by omega) A2 l2.length y162 ((t165) % 256) [.int .u8 ((t165) % 256)] (fun _ => True) (fun _ => False) rfl rfl ?aP (fun _ hk => hk.elim) ?aF ?aC (fun _ _ h_ => h_) ?aB ?aS ?aL ?_; (case aP => exact rfl); (case aB => exact (by repeat (first | (with_reducible first | exact HB.out | apply below_alloc | apply pw_below_drewN | apply below_drew1) | exact HB.out))); (case aF => exact (fun _ _ => trivial)); (case aC => rw [Hy_.out]; repeat (first | exact (Kd.C_below HR2.out HB.out) | (with_reducible refine Kd.C_alloc ?_ _) | (with_reducible refine Kd.C_drewN ?_ _) | (with_reducible refine Kd.C_drew ?_))); (case aS => exact (below_size (by repeat (first | (with_reducible first | exact HB.out | apply below_alloc | apply pw_below_drewN | apply below_drew1) | exact HB.out)))); (case aL => have := LMc9.out; omega); intro v167 w13 ho hb; rw [← Ny166.out] at ho; have n0_ := Aside0.mk (hb); have n1_ := Aside0.mk (ho); clear HB; have HB := n0_; have HO168 := n1_; clear n0_ n1_; clear ho hb; obtain ⟨Ao14, co14, eo14⟩ := Kd.R_slice HO168.out; subst eo14))
        go_loopg [9, 27] k (fun kq v9 v27 w' => ∃ (x9_1 : Int) (x27_1 : Int), v9 = .int .i64 x9_1 ∧ v27 = .int .i64 x27_1 ∧ Aside0 (impl_SealOf.l0 kq a0 x9_1 y166 (y166.length : Int) x27_1 = some r) ∧ Aside0 (kq ≤ k) ∧ Aside0 (Kd.R (Kd.int .u8) 5 w' w.heap.size (fun _ => True) (.slice Ao14 y166.length co14) y166) ∧ Aside0 (Below w.heap.size w w'))
        case atStart => exact ⟨(wrap64 (a1 + 1)), (0), (by first | rfl | (simp; done) | (simp [*]; done)), (by first | rfl | (simp; done) | (simp [*]; done)), H', ⟨Nat.le_refl _⟩, ⟨by (with_reducible repeat (first | apply Kd.R_alloc | apply Kd.R_drewN | apply Kd.R_drew)); exact HO168.out⟩, ⟨by repeat (first | (with_reducible first | exact HB.out | apply below_alloc | apply pw_below_drewN | apply below_drew1) | exact HB.out)⟩⟩
        case round =>
          clear H'
          try clear c1
          try clear c2
          try clear p2
          try clear c4
          try clear c6
          try clear p6
          try clear c7
          try clear c9
          obtain ⟨x9_1, x27_1, rfl, rfl, HA, HK1, HO_25, HB⟩ := hrel
          cases gk with
          | zero => exact absurd HA.out (by simp [impl_SealOf.l0])
          | succ k1 =>
            have H := HA.out
            clear HA
            simp only [impl_SealOf.l0] at H
            by_cases c15 : x27_1 < (y166.length : Int)
            · rw [if_pos c15] at H
              have c15b0 : decide (x27_1 < (y166.length : Int)) = true := decide_eq_true c15
              clear c15
              by_cases c16 : 0 ≤ x27_1
              · rw [if_pos c16] at H
                have c16b0 : decide (0 ≤ x27_1) = true := decide_eq_true c16
                clear c16
                by_cases c17 : x27_1 < (y166.length : Int)
                · rw [if_pos c17] at H
                  have c17b0 : decide (x27_1 < (y166.length : Int)) = true := decide_eq_true c17
                  clear c17
                  have H' := Aside0.mk H
                  clear H
                  have p169 : 0 ≤ (x27_1 : Int) := of_decide_eq_true (by first | (with_reducible assumption) | assumption)
                  have q169 : x27_1 < (y166.length : Int) := of_decide_eq_true (by first | (with_reducible assumption) | assumption)
                  obtain ⟨ad169, e169, hx169_0⟩ := Kd.at_int (Kd.R_reads' HO_25.out).2.2 x27_1 p169 q169
                  cases e169
                  replace p169 := eq_true p169
                  replace q169 := eq_true q169
                  go_wp2
                  go_roundg k1
                  case measure => have := HK1.out; omega
                  case rel => exact ⟨(Int.tmod (wrap64 ((wrap64 ((wrap64 (x9_1 * a0)) + (wrap64 (rd y166 x27_1)))) + 1)) 65521), (wrap64 (x27_1 + 1)), (by first | rfl | (simp; done) | (simp [*]; done)), (by first | rfl | (simp; done) | (simp [*]; done)), H', ⟨by have := HK1.out; omega⟩, ⟨by (with_reducible repeat (first | apply Kd.R_alloc | apply Kd.R_drewN | apply Kd.R_drew)); exact HO_25.out⟩, ⟨by repeat (first | (with_reducible first | exact HB.out | apply below_alloc | apply pw_below_drewN | apply below_drew1) | exact HB.out)⟩⟩
                · rw [if_neg c17] at H
                  exact absurd H (by simp)
              · rw [if_neg c16] at H
                exact absurd H (by simp)
            · rw [if_neg c15] at H
              have c15b0 : decide (x27_1 < (y166.length : Int)) = false := decide_eq_false c15
              clear c15
              obtain rfl := Option.some.inj H
              go_wp2
              go_ret
              exact ⟨by first | rfl | (simp [errW_none, errW_some] <;> rfl) | (simp [*, errW_none, errW_some] <;> rfl), by repeat (first | (with_reducible first | exact HB.out | apply below_alloc | apply pw_below_drewN | apply below_drew1) | exact HB.out)⟩
      · rw [if_neg c9] at H
        exact absurd H (by simp)
    · rw [if_neg c7] at H
      exact absurd H (by simp)
  · replace c6 := Bool.eq_false_iff.mpr c6
    subst c6
    have H1 : (some (-1)) = some r := by rw [if_neg (show ¬ (false = true) by decide)] at H; exact H
    clear H
    have H := H1
    clear H1
    obtain rfl := Option.some.inj H
    go_enter Try.func17, Try.ntmps17
    go_wp2_with (first | ((with_reducible refine gate_callee (f := 42) rfl ?_); refine goesL_ (some 15) rfl rfl Try.func42 (by kernel_rfl) rfl #[.int .i64 a0, .int .i64 a1, .slice A2 l2.length c2] rfl (by (try simp only [List.map_toArray, List.map_cons, List.map_nil]); first | done | rfl | (simp only [List.length_drop, List.length_take]; rfl)) ?_; (with_reducible refine (impl_sealOk.calls a0 a1 _ _ l2 false _ ?side1 ?side2 A5.out).mono ?_); (case side1 => repeat (first | exact HR2.out | (with_reducible refine Kd.C_alloc ?_ _) | (with_reducible refine Kd.C_drewN ?_ _) | (with_reducible refine Kd.C_drew ?_))); (case side2 => exact HC2.out); rintro e w' ⟨rfl, ⟨nd, rfl⟩⟩; refine ⟨_, rfl, ?_⟩))
    go_ret
    exact ⟨by first | rfl | (simp [errW_none, errW_some] <;> rfl) | (simp [*, errW_none, errW_some] <;> rfl), by repeat (first | (with_reducible first | exact HB.out | apply below_alloc | apply pw_below_drewN | apply below_drew1) | exact HB.out)⟩

/-! ### impl_clone_byte: function 54 -/
def impl_clone_byte.f (l0 : List Int) : Option (List Int) := if (l0.length : Int) = 0 then (some ([] : List Int)) else ((some (([] : List Int) : List Int)).bind fun y170 => (if y170.length + l0.length < 140737488355328 then (some (y170 ++ l0)) else (none)))
set_option maxHeartbeats 8000000 in
set_option maxRecDepth 100000 in
theorem impl_clone_byte.calls (A0 : Option Addr) (c0 : Nat) (l0 : List Int) (r : List Int) (w : World) (hr0 : Kd.C (Kd.int .u8) w A0 l0.length l0) (hc0 : l0.length ≤ c0) (h : impl_clone_byte.f l0 = some r) :
    Calls Try.prog 54 #[.slice A0 l0.length c0] w fun e w' => ∃ v0_ : Value, e = .returned (v0_) ∧ Kd.R (Kd.int .u8) 5 w' w.heap.size (fun _ => True) v0_ r ∧ Below w.heap.size w w' := by
  have HR0 := Aside0.mk hr0
  have HC0 := Aside0.mk hc0
  clear hr0 hc0
  have HB := Aside0.mk (Below.refl w.heap.size w)
  have H : (if (l0.length : Int) = 0 then (some ([] : List Int)) else ((some (([] : List Int) : List Int)).bind fun y170 => (if y170.length + l0.length < 140737488355328 then (some (y170 ++ l0)) else (none)))) = some r := h
  clear h
  by_cases c2 : (l0.length : Int) = 0
  · rw [if_pos c2] at H
    have c2b0 : ((l0.length : Int) == 0) = true := beq_iff_eq.mpr c2
    have c2b1 : ((l0.length : Int) != 0) = false := bne_eq_false_iff_eq.mpr c2
    clear c2
    obtain rfl := Option.some.inj H
    go_enter Try.func54, Try.ntmps54
    go_wp2
    go_ret
    exact ⟨_, by first | rfl | (simp [errW_none, errW_some] <;> rfl) | (simp [*, errW_none, errW_some] <;> rfl), by first | exact Kd.R_nil _ _ _ _ _ | exact Kd.N_nil _ _ _ _ _ | exact Kd.V_nil _ _ _ _ _ | exact Kd.Q_nil _ _ _ _ _ | exact Kd.S_nil _ _ _ _ _, by repeat (first | (with_reducible first | exact HB.out | apply below_alloc | apply pw_below_drewN | apply below_drew1) | exact HB.out)⟩
  · rw [if_neg c2] at H
    have c2b0 : ((l0.length : Int) == 0) = false := beq_eq_false_iff_ne.mpr c2
    have c2b1 : ((l0.length : Int) != 0) = true := bne_iff_ne.mpr c2
    have c2b2 : ¬ (l0 = []) := fun h_ => c2 (by rw [h_]; rfl)
    obtain ⟨y170, hy170⟩ : ∃ y_ : List Int, y_ = (([] : List Int)) := ⟨_, rfl⟩
    replace H : (if y170.length + l0.length < 140737488355328 then (some (y170 ++ l0)) else (none)) = some r := by first | (rw [hy170]; with_reducible exact H) | (have H2_ := (Option.bind_some _ _).symm.trans H; rw [hy170]; with_reducible exact H2_) | (have H2_ := (Option.bind_some _ _).symm.trans H; with_reducible exact H2_) | with_reducible exact H | (rw [hy170]; exact H) | exact H
    have Ny170 := Aside0.mk hy170
    clear hy170
    by_cases c3 : y170.length + l0.length < 140737488355328
    · rw [if_pos c3] at H
      have LMc3 := Aside0.mk c3
      clear c3
      obtain ⟨y173, hy173⟩ : ∃ y_ : List Int, y_ = (y170 ++ l0) := ⟨_, rfl⟩
      replace H : (some y173) = some r := by first | (rw [hy173]; with_reducible exact H) | (have H2_ := (Option.bind_some _ _).symm.trans H; rw [hy173]; with_reducible exact H2_) | (have H2_ := (Option.bind_some _ _).symm.trans H; with_reducible exact H2_) | with_reducible exact H | (rw [hy173]; exact H) | exact H
      have Ny173 := Aside0.mk hy173
      clear hy173
      obtain rfl := Option.some.inj H
      have HO172 := Aside0.mk (show Kd.R (Kd.int .u8) 5 w w.heap.size (fun _ => True) (.slice none 0 0) y170 by rw [Ny170.out]; exact Kd.R_nil _ _ _ _ _)
      have HL63_ := Aside0.mk (show y173.length ≤ 9223372036854775807 by rw [Ny173.out, List.length_append]; have := LMc3.out; omega)
      go_enter Try.func54, Try.ntmps54
      go_wp2_with (first | ((with_reducible refine gate_builtin (b := .append) (xs := #[.const (.slice none 0 0), .tmp 6]) rfl ?_); at_builtin; refine Kd.R_append_rows (Kd.int .u8) (w0 := w) w.heap.size rfl (.const (.slice none 0 0)) (.tmp 6) 22 5 (.int .u8 0) 1 rfl Try.underlying22 info5 rfl (by decide) (by omega) (.slice none 0 0) y170 l0 _ _ _ (fun _ => True) (fun _ => False) rfl rfl ?aO ?aR (fun _ _ h => h) (fun _ h => h.elim) ?aF ?aB ?aS ?aL ?_; (case aR => repeat (first | exact (Kd.C_below HR0.out HB.out) | (with_reducible refine Kd.C_alloc ?_ _) | (with_reducible refine Kd.C_drewN ?_ _) | (with_reducible refine Kd.C_drew ?_))); (case aB => exact (by repeat (first | (with_reducible first | exact HB.out | apply below_alloc | apply pw_below_drewN | apply below_drew1) | exact HB.out))); (case aF => exact (fun _ _ => trivial)); (case aO => exact (by (with_reducible repeat (first | apply Kd.R_alloc | apply Kd.R_drewN | apply Kd.R_drew)); exact HO172.out)); (case aS => exact (below_size (by repeat (first | (with_reducible first | exact HB.out | apply below_alloc | apply pw_below_drewN | apply below_drew1) | exact HB.out)))); (case aL => have := LMc3.out; omega); intro v174 w6 ho hb hg hat; rw [← Ny173.out] at ho; have n0_ := Aside0.mk (hb); have n1_ := Aside0.mk (ho); clear HB; clear HO172; have HB := n0_; have HO175 := n1_; clear n0_ n1_; clear ho hb hg hat; obtain ⟨Ax_, cx_, ex_⟩ := Kd.R_slice HO175.out; subst ex_; have HLx_ := Aside0.mk (Kd.R_le HO175.out)) | (go_at_call 43; (with_reducible refine (slices_Clip_43.calls _ _ _ _ HLx_.out HL63_.out).mono ?_); rintro e w' ⟨rfl, hw_⟩; subst hw_))
      go_ret
      exact ⟨_, by first | rfl | (simp [errW_none, errW_some] <;> rfl) | (simp [*, errW_none, errW_some] <;> rfl), by (with_reducible repeat (first | apply Kd.R_alloc | apply Kd.R_drewN | apply Kd.R_drew)); exact Kd.R_clip HO175.out, by repeat (first | (with_reducible first | exact HB.out | apply below_alloc | apply pw_below_drewN | apply below_drew1) | exact HB.out)⟩
    · rw [if_neg c3] at H
      exact absurd H (by simp)

/-! ### impl_NumberAt: function 55 -/
mutual
def impl_NumberAt.j0 : Nat → List Int → Int → Int → Bool → Option (Int)
  | 0, _, _, _, _ => none
  | k + 1, x0, x1, x2, x24 => if x24 = true then (some (-1)) else (if 0 ≤ x1 then (if x1 ≤ (wrap64 (x1 + x2)) then (if (wrap64 (x1 + x2)) ≤ (x0.length : Int) then (impl_NumberAt.l0 k 0 ((x0.take ((wrap64 (x1 + x2)) : Int).toNat).drop (x1 : Int).toNat) (((x0.take ((wrap64 (x1 + x2)) : Int).toNat).drop (x1 : Int).toNat).length : Int) 0) else (none)) else (none)) else (none))
def impl_NumberAt.l0 : Nat → Int → List Int → Int → Int → Option (Int)
  | 0, _, _, _, _ => none
  | k + 1, x7, x30, x31, x32 => if x32 < x31 then (if 0 ≤ x32 then (if x32 < (x30.length : Int) then (impl_NumberAt.l0 k (Go.bits .or .i64 (wrap64 (x7 * 256)) (wrap64 (rd x30 x32))) x30 x31 (wrap64 (x32 + 1))) else (none)) else (none)) else (some x7)
end
def impl_NumberAt.f (k : Nat) (l0 : List Int) (a1 : Int) (a2 : Int) : Option (Int) := (impl_in.f a2 1 4).bind fun t176 => (if t176 = true then (if a1 < 0 then (impl_NumberAt.j0 k l0 a1 a2 true) else (impl_NumberAt.j0 k l0 a1 a2 (decide (a1 > (wrap64 ((l0.length : Int) - a2)))))) else (impl_NumberAt.j0 k l0 a1 a2 true))
theorem impl_NumberAt.mono_l : ∀ k, (∀ y0 y1 y2 y3, LeO (impl_NumberAt.j0 k y0 y1 y2 y3) (impl_NumberAt.j0 (k + 1) y0 y1 y2 y3)) ∧ (∀ y0 y1 y2 y3, LeO (impl_NumberAt.l0 k y0 y1 y2 y3) (impl_NumberAt.l0 (k + 1) y0 y1 y2 y3))
  | 0 => ⟨fun _ _ _ _ r h => by simp [impl_NumberAt.j0] at h, fun _ _ _ _ r h => by simp [impl_NumberAt.l0] at h⟩
  | k + 1 => by
    obtain ⟨ih0, ih1⟩ := impl_NumberAt.mono_l k
    refine ⟨?_, ?_⟩
    · intro y0 y1 y2 y3
      unfold impl_NumberAt.j0
      repeat' first
      | (with_reducible exact ih0 _ _ _ _)
      | (with_reducible exact ih1 _ _ _ _)
      | (with_reducible exact LeO.refl _)
      | (with_reducible exact LeO.none _)
      | (with_reducible refine LeO.ite ?_ ?_)
      | (with_reducible refine LeO.bind ?_ (fun _ => ?_))
      | exact ih0 _ _ _ _
      | exact ih1 _ _ _ _
      | exact LeO.none _
      | refine LeO.ite ?_ ?_
      | refine LeO.bind ?_ (fun _ => ?_)
    · intro y0 y1 y2 y3
      unfold impl_NumberAt.l0
      repeat' first
      | (with_reducible exact ih0 _ _ _ _)
      | (with_reducible exact ih1 _ _ _ _)
      | (with_reducible exact LeO.refl _)
      | (with_reducible exact LeO.none _)
      | (with_reducible refine LeO.ite ?_ ?_)
      | (with_reducible refine LeO.bind ?_ (fun _ => ?_))
      | exact ih0 _ _ _ _
      | exact ih1 _ _ _ _
      | exact LeO.none _
      | refine LeO.ite ?_ ?_
      | refine LeO.bind ?_ (fun _ => ?_)
theorem impl_NumberAt.mono : ∀ a0 a1 a2 k, LeO (impl_NumberAt.f k a0 a1 a2) (impl_NumberAt.f (k + 1) a0 a1 a2) := by
  intro a0 a1 a2 k
  obtain ⟨ih0, ih1⟩ := impl_NumberAt.mono_l k
  unfold impl_NumberAt.f
  repeat' first
      | (with_reducible exact ih0 _ _ _ _)
      | (with_reducible exact ih1 _ _ _ _)
      | (with_reducible exact LeO.refl _)
      | (with_reducible exact LeO.none _)
      | (with_reducible refine LeO.ite ?_ ?_)
      | (with_reducible refine LeO.bind ?_ (fun _ => ?_))
      | exact ih0 _ _ _ _
      | exact ih1 _ _ _ _
      | exact LeO.none _
      | refine LeO.ite ?_ ?_
      | refine LeO.bind ?_ (fun _ => ?_)
set_option maxHeartbeats 8000000 in
set_option maxRecDepth 100000 in
theorem impl_NumberAt.calls (k : Nat) (A0 : Option Addr) (c0 : Nat) (l0 : List Int) (a1 : Int) (a2 : Int) (r : Int) (w : World) (hr0 : Kd.C (Kd.int .u8) w A0 l0.length l0) (hc0 : l0.length ≤ c0) (h : impl_NumberAt.f k l0 a1 a2 = some r) :
    Calls Try.prog 55 #[.slice A0 l0.length c0, .int .i64 a1, .int .i64 a2] w fun e w' => e = .returned (.int .i64 r) ∧ Drawn0 w w' := by
  have HR0 := Aside0.mk hr0
  have HC0 := Aside0.mk hc0
  clear hr0 hc0
  have H : ((impl_in.f a2 1 4).bind fun t176 => (if t176 = true then (if a1 < 0 then (impl_NumberAt.j0 k l0 a1 a2 true) else (impl_NumberAt.j0 k l0 a1 a2 (decide (a1 > (wrap64 ((l0.length : Int) - a2)))))) else (impl_NumberAt.j0 k l0 a1 a2 true))) = some r := h
  clear h
  have HC4 := Aside0.mk H
  clear H
  go_enter Try.func55, Try.ntmps55
  go_upto_region 1 with (fail)
  go_cut [24] (fun v24 wc => ∃ (kq : Nat) (x24_3 : Bool), v24 = .bool x24_3 ∧ Aside0 (impl_NumberAt.j0 kq l0 a1 a2 x24_3 = some r) ∧ Aside0 (kq ≤ k) ∧ Drawn0 w wc)
  case first =>
    have H := HC4.out
    clear HC4
    replace H := Option.bind_eq_some_iff.mp H
    obtain ⟨t176, A50, H⟩ := H
    replace H : (if t176 = true then (if a1 < 0 then (impl_NumberAt.j0 k l0 a1 a2 true) else (impl_NumberAt.j0 k l0 a1 a2 (decide (a1 > (wrap64 ((l0.length : Int) - a2)))))) else (impl_NumberAt.j0 k l0 a1 a2 true)) = some r := H
    have A5 := Aside0.mk A50
    clear A50
    by_cases c6 : t176 = true
    · subst c6
      have H1 : (if a1 < 0 then (impl_NumberAt.j0 k l0 a1 a2 true) else (impl_NumberAt.j0 k l0 a1 a2 (decide (a1 > (wrap64 ((l0.length : Int) - a2)))))) = some r := by rw [if_pos rfl] at H; exact H
      clear H
      have H := H1
      clear H1
      by_cases c7 : a1 < 0
      · rw [if_pos c7] at H
        have c7b0 : decide (a1 < 0) = true := decide_eq_true c7
        clear c7
        (first | rw [c7b0] | (simp only [i64_w, i32_w]; rw [c7b0]) | skip)
        have H' := Aside0.mk H
        clear H
        go_wp2_with (first | ((with_reducible refine gate_callee (f := 57) rfl ?_); refine goesL_ (some 11) rfl rfl Try.func57 (by kernel_rfl) rfl #[.int .i64 a2, .int .i64 1, .int .i64 4] rfl (by (try simp only [List.map_toArray, List.map_cons, List.map_nil]); first | done | rfl | (simp only [List.length_drop, List.length_take]; rfl)) ?_; (with_reducible refine (impl_in.calls a2 1 4 true _ A5.out).mono ?_); rintro e w' ⟨rfl, ⟨nd, rfl⟩⟩; refine ⟨_, rfl, ?_⟩))
        go_meet
        case rel => exact ⟨_, (true), (by first | rfl | (simp; done) | (simp [*]; done)), H', ⟨by first | omega | exact Nat.le_refl _⟩, by repeat (first | exact Drawn0.refl _ | apply Drawn0.step)⟩
      · rw [if_neg c7] at H
        have c7b0 : decide (a1 < 0) = false := decide_eq_false c7
        clear c7
        (first | rw [c7b0] | (simp only [i64_w, i32_w]; rw [c7b0]) | skip)
        have H' := Aside0.mk H
        clear H
        go_wp2_with (first | ((with_reducible refine gate_callee (f := 57) rfl ?_); refine goesL_ (some 11) rfl rfl Try.func57 (by kernel_rfl) rfl #[.int .i64 a2, .int .i64 1, .int .i64 4] rfl (by (try simp only [List.map_toArray, List.map_cons, List.map_nil]); first | done | rfl | (simp only [List.length_drop, List.length_take]; rfl)) ?_; (with_reducible refine (impl_in.calls a2 1 4 true _ A5.out).mono ?_); rintro e w' ⟨rfl, ⟨nd, rfl⟩⟩; refine ⟨_, rfl, ?_⟩))
        go_meet
        case rel => exact ⟨_, (decide (a1 > (wrap64 ((l0.length : Int) - a2)))), (by first | rfl | (simp; done) | (simp [*]; done)), H', ⟨by first | omega | exact Nat.le_refl _⟩, by repeat (first | exact Drawn0.refl _ | apply Drawn0.step)⟩
    · replace c6 := Bool.eq_false_iff.mpr c6
      subst c6
      have H1 : (impl_NumberAt.j0 k l0 a1 a2 true) = some r := by rw [if_neg (show ¬ (false = true) by decide)] at H; exact H
      clear H
      have H := H1
      clear H1
      have H' := Aside0.mk H
      clear H
      go_wp2_with (first | ((with_reducible refine gate_callee (f := 57) rfl ?_); refine goesL_ (some 11) rfl rfl Try.func57 (by kernel_rfl) rfl #[.int .i64 a2, .int .i64 1, .int .i64 4] rfl (by (try simp only [List.map_toArray, List.map_cons, List.map_nil]); first | done | rfl | (simp only [List.length_drop, List.length_take]; rfl)) ?_; (with_reducible refine (impl_in.calls a2 1 4 false _ A5.out).mono ?_); rintro e w' ⟨rfl, ⟨nd, rfl⟩⟩; refine ⟨_, rfl, ?_⟩))
      go_meet
      case rel => exact ⟨_, (true), (by first | rfl | (simp; done) | (simp [*]; done)), H', ⟨by first | omega | exact Nat.le_refl _⟩, by repeat (first | exact Drawn0.refl _ | apply Drawn0.step)⟩
  case rest =>
    clear HC4
    try clear p2
    try clear c5
    try clear c6
    try clear p6
    try clear c7
    try clear c7b0
    obtain ⟨kq, x24_3, rfl, HA, HJ3, ⟨mc3, rfl⟩⟩ := hcut
    cases kq with
    | zero => exact absurd HA.out (by simp [impl_NumberAt.j0])
    | succ kj3 =>
      have H := HA.out
      clear HA
      simp only [impl_NumberAt.j0] at H
      by_cases c8 : x24_3 = true
      · subst c8
        have H1 : (some (-1)) = some r := by rw [if_pos rfl] at H; exact H
        clear H
        have H := H1
        clear H1
        obtain rfl := Option.some.inj H
        go_wp2
        go_ret
        exact ⟨by first | rfl | (simp; done) | (simp [*]; done), by repeat (first | exact Drawn0.refl _ | apply Drawn0.step)⟩
      · replace c8 := Bool.eq_false_iff.mpr c8
        subst c8
        have H1 : (if 0 ≤ a1 then (if a1 ≤ (wrap64 (a1 + a2)) then (if (wrap64 (a1 + a2)) ≤ (l0.length : Int) then (impl_NumberAt.l0 kj3 0 ((l0.take ((wrap64 (a1 + a2)) : Int).toNat).drop (a1 : Int).toNat) (((l0.take ((wrap64 (a1 + a2)) : Int).toNat).drop (a1 : Int).toNat).length : Int) 0) else (none)) else (none)) else (none)) = some r := by rw [if_neg (show ¬ (false = true) by decide)] at H; exact H
        clear H
        have H := H1
        clear H1
        by_cases c9 : 0 ≤ a1
        · rw [if_pos c9] at H
          have c9b0 := eq_true c9
          have c9b1 : decide (0 ≤ a1) = true := decide_eq_true c9
          clear c9
          by_cases c10 : a1 ≤ (wrap64 (a1 + a2))
          · rw [if_pos c10] at H
            have c10b0 := eq_true c10
            have c10b1 : decide (a1 ≤ (wrap64 (a1 + a2))) = true := decide_eq_true c10
            by_cases c11 : (wrap64 (a1 + a2)) ≤ (l0.length : Int)
            · rw [if_pos c11] at H
              have c11b0 := eq_true c11
              have c11b1 : decide ((wrap64 (a1 + a2)) ≤ (l0.length : Int)) = true := decide_eq_true c11
              have H' := Aside0.mk H
              clear H
              obtain ⟨i012, hi012, _, hsz12, _⟩ := info_parts info5
              obtain ⟨A12, hcut12, hA12, hC12⟩ := print_mid_of (P := Try.prog) (Value.int .u8) 0 22 5 .i64 .i64 Try.underlying22 hi012 hsz12 A0 c0 l0 a1 (wrap64 (a1 + a2)) (of_decide_eq_true (by first | (with_reducible assumption) | assumption)) (by first | omega | exact of_decide_eq_true (by first | (with_reducible assumption) | assumption)) (of_decide_eq_true (by first | (with_reducible assumption) | assumption)) HC0.out
              have HR177 := Aside0.mk (Kd.C_of_reads (h1 := fun _ => rfl) (hA12 _ (Kd.reads_of_C HR0.out)))
              have HC177 := Aside0.mk hC12
              clear hA12 hC12 hi012 hsz12
              obtain ⟨xs_, hxs_⟩ : ∃ x_ : List Int, x_ = ((l0.take ((wrap64 (a1 + a2)) : Int).toNat).drop (a1 : Int).toNat) := ⟨_, rfl⟩
              rw [← hxs_] at hcut12 HR177 HC177 H'
              clear hxs_
              go_wp2
              go_loopg [7, 32] kj3 (fun kq v7 v32 w' => ∃ (x7_2 : Int) (x32_2 : Int), v7 = .int .i64 x7_2 ∧ v32 = .int .i64 x32_2 ∧ Aside0 (impl_NumberAt.l0 kq x7_2 xs_ (xs_.length : Int) x32_2 = some r) ∧ Aside0 (kq ≤ kj3) ∧ Drawn0 w w')
              case atStart => exact ⟨(0), (0), (by first | rfl | (simp; done) | (simp [*]; done)), (by first | rfl | (simp; done) | (simp [*]; done)), H', ⟨Nat.le_refl _⟩, by repeat (first | exact Drawn0.refl _ | apply Drawn0.step)⟩
              case round =>
                clear H'
                try clear c1
                try clear p2
                try clear c3
                try clear c5
                try clear c6
                try clear p6
                try clear c7
                try clear c7b0
                try clear c8
                try clear c9
                try clear c9b0
                try clear c9b1
                try clear c10
                try clear c10b0
                try clear c10b1
                try clear c11
                try clear c11b0
                try clear c11b1
                try clear p2
                try clear p6
                obtain ⟨x7_2, x32_2, rfl, rfl, HA, HK2, ⟨m2, rfl⟩⟩ := hrel
                cases gk with
                | zero => exact absurd HA.out (by simp [impl_NumberAt.l0])
                | succ k2 =>
                  have H := HA.out
                  clear HA
                  simp only [impl_NumberAt.l0] at H
                  by_cases c13 : x32_2 < (xs_.length : Int)
                  · rw [if_pos c13] at H
                    have c13b0 : decide (x32_2 < (xs_.length : Int)) = true := decide_eq_true c13
                    clear c13
                    by_cases c14 : 0 ≤ x32_2
                    · rw [if_pos c14] at H
                      have c14b0 : decide (0 ≤ x32_2) = true := decide_eq_true c14
                      clear c14
                      by_cases c15 : x32_2 < (xs_.length : Int)
                      · rw [if_pos c15] at H
                        have c15b0 : decide (x32_2 < (xs_.length : Int)) = true := decide_eq_true c15
                        clear c15
                        have H' := Aside0.mk H
                        clear H
                        have p178 : 0 ≤ (x32_2 : Int) := of_decide_eq_true (by first | (with_reducible assumption) | assumption)
                        have q178 : x32_2 < (xs_.length : Int) := of_decide_eq_true (by first | (with_reducible assumption) | assumption)
                        obtain ⟨ad178, e178, hx178_0⟩ := Kd.at_int HR177.out x32_2 p178 q178
                        cases e178
                        replace p178 := eq_true p178
                        replace q178 := eq_true q178
                        go_wp2
                        go_roundg k2
                        case measure => have := HJ3.out; have := HK2.out; omega
                        case rel => exact ⟨(Go.bits .or .i64 (wrap64 (x7_2 * 256)) (wrap64 (rd xs_ x32_2))), (wrap64 (x32_2 + 1)), (by first | rfl | (simp; done) | (simp [*]; done)), (by first | rfl | (simp; done) | (simp [*]; done)), H', ⟨by have := HJ3.out; have := HK2.out; omega⟩, by repeat (first | exact Drawn0.refl _ | apply Drawn0.step)⟩
                      · rw [if_neg c15] at H
                        exact absurd H (by simp)
                    · rw [if_neg c14] at H
                      exact absurd H (by simp)
                  · rw [if_neg c13] at H
                    have c13b0 : decide (x32_2 < (xs_.length : Int)) = false := decide_eq_false c13
                    clear c13
                    obtain rfl := Option.some.inj H
                    go_wp2
                    go_ret
                    exact ⟨by first | rfl | (simp; done) | (simp [*]; done), by repeat (first | exact Drawn0.refl _ | apply Drawn0.step)⟩
            · rw [if_neg c11] at H
              exact absurd H (by simp)
          · rw [if_neg c10] at H
            exact absurd H (by simp)
        · rw [if_neg c9] at H
          exact absurd H (by simp)

/-! ### impl_RecordFrom: function 26 -/
def impl_RecordFrom.f (k : Nat) (a0 : Int) (a1 : Int) (l2 : List Int) : Option (List Int × Bool × Int) := (impl_sealOk.f a0 a1 ([] : List Int)).bind fun t179 => (if t179 = true then (if (l2.length : Int) = 0 then (some (([] : List Int), false, 0)) else (if 0 < (l2.length : Int) then (if (Int.tmod (wrap64 (rd l2 0)) 128) > 10 then (some (([] : List Int), false, (-1))) else (if (l2.length : Int) < (wrap64 ((Int.tmod (wrap64 (rd l2 0)) 128) + 3)) then (some (([] : List Int), false, 0)) else (if 1 ≤ (wrap64 ((Int.tmod (wrap64 (rd l2 0)) 128) + 1)) then (if (wrap64 ((Int.tmod (wrap64 (rd l2 0)) 128) + 1)) ≤ (l2.length : Int) then ((impl_clone_byte.f ((l2.take ((wrap64 ((Int.tmod (wrap64 (rd l2 0)) 128) + 1)) : Int).toNat).drop 1)).bind fun t183 => ((impl_SealOf.f k a0 a1 t183 (decide ((rd l2 0) ≥ 128))).bind fun t186 => ((impl_NumberAt.f k l2 (wrap64 ((Int.tmod (wrap64 (rd l2 0)) 128) + 1)) 2).bind fun t187 => (if t186 = t187 then (some (t183, decide ((rd l2 0) ≥ 128), wrap64 ((Int.tmod (wrap64 (rd l2 0)) 128) + 3))) else (some (([] : List Int), false, (-1))))))) else (none)) else (none)))) else (none))) else (some (([] : List Int), false, (-1))))
theorem impl_RecordFrom.mono : ∀ a0 a1 a2 k, LeO (impl_RecordFrom.f k a0 a1 a2) (impl_RecordFrom.f (k + 1) a0 a1 a2) := by
  intro a0 a1 a2 k
  unfold impl_RecordFrom.f
  repeat' first
      | (with_reducible exact impl_NumberAt.mono _ _ _ _)
      | (with_reducible exact impl_SealOf.mono _ _ _ _ _)
      | (with_reducible exact LeO.refl _)
      | (with_reducible exact LeO.none _)
      | (with_reducible refine LeO.ite ?_ ?_)
      | (with_reducible refine LeO.bind ?_ (fun _ => ?_))
      | exact impl_NumberAt.mono _ _ _ _
      | exact impl_SealOf.mono _ _ _ _ _
      | exact LeO.none _
      | refine LeO.ite ?_ ?_
      | refine LeO.bind ?_ (fun _ => ?_)
set_option maxHeartbeats 8000000 in
set_option maxRecDepth 100000 in
theorem impl_RecordFrom.calls (k : Nat) (a0 : Int) (a1 : Int) (A2 : Option Addr) (c2 : Nat) (l2 : List Int) (r1 : List Int) (r2 : Bool) (r3 : Int) (w : World) (hr2 : Kd.C (Kd.int .u8) w A2 l2.length l2) (hc2 : l2.length ≤ c2) (h : impl_RecordFrom.f k a0 a1 l2 = some (r1, r2, r3)) :
    Calls Try.prog 26 #[.int .i64 a0, .int .i64 a1, .slice A2 l2.length c2] w fun e w' => ∃ v0_ : Value, e = .returned (.tuple #[v0_, .bool r2, .int .i64 r3]) ∧ Kd.R (Kd.int .u8) 5 w' w.heap.size (fun _ => True) v0_ r1 ∧ Below w.heap.size w w' := by
  have HR2 := Aside0.mk hr2
  have HC2 := Aside0.mk hc2
  clear hr2 hc2
  have HB := Aside0.mk (Below.refl w.heap.size w)
  have H : ((impl_sealOk.f a0 a1 ([] : List Int)).bind fun t179 => (if t179 = true then (if (l2.length : Int) = 0 then (some (([] : List Int), false, 0)) else (if 0 < (l2.length : Int) then (if (Int.tmod (wrap64 (rd l2 0)) 128) > 10 then (some (([] : List Int), false, (-1))) else (if (l2.length : Int) < (wrap64 ((Int.tmod (wrap64 (rd l2 0)) 128) + 3)) then (some (([] : List Int), false, 0)) else (if 1 ≤ (wrap64 ((Int.tmod (wrap64 (rd l2 0)) 128) + 1)) then (if (wrap64 ((Int.tmod (wrap64 (rd l2 0)) 128) + 1)) ≤ (l2.length : Int) then ((impl_clone_byte.f ((l2.take ((wrap64 ((Int.tmod (wrap64 (rd l2 0)) 128) + 1)) : Int).toNat).drop 1)).bind fun t183 => ((impl_SealOf.f k a0 a1 t183 (decide ((rd l2 0) ≥ 128))).bind fun t186 => ((impl_NumberAt.f k l2 (wrap64 ((Int.tmod (wrap64 (rd l2 0)) 128) + 1)) 2).bind fun t187 => (if t186 = t187 then (some (t183, decide ((rd l2 0) ≥ 128), wrap64 ((Int.tmod (wrap64 (rd l2 0)) 128) + 3))) else (some (([] : List Int), false, (-1))))))) else (none)) else (none)))) else (none))) else (some (([] : List Int), false, (-1))))) = some (r1, r2, r3) := h
  clear h
  replace H := Option.bind_eq_some_iff.mp H
  obtain ⟨t179, A40, H⟩ := H
  replace H : (if t179 = true then (if (l2.length : Int) = 0 then (some (([] : List Int), false, 0)) else (if 0 < (l2.length : Int) then (if (Int.tmod (wrap64 (rd l2 0)) 128) > 10 then (some (([] : List Int), false, (-1))) else (if (l2.length : Int) < (wrap64 ((Int.tmod (wrap64 (rd l2 0)) 128) + 3)) then (some (([] : List Int), false, 0)) else (if 1 ≤ (wrap64 ((Int.tmod (wrap64 (rd l2 0)) 128) + 1)) then (if (wrap64 ((Int.tmod (wrap64 (rd l2 0)) 128) + 1)) ≤ (l2.length : Int) then ((impl_clone_byte.f ((l2.take ((wrap64 ((Int.tmod (wrap64 (rd l2 0)) 128) + 1)) : Int).toNat).drop 1)).bind fun t183 => ((impl_SealOf.f k a0 a1 t183 (decide ((rd l2 0) ≥ 128))).bind fun t186 => ((impl_NumberAt.f k l2 (wrap64 ((Int.tmod (wrap64 (rd l2 0)) 128) + 1)) 2).bind fun t187 => (if t186 = t187 then (some (t183, decide ((rd l2 0) ≥ 128), wrap64 ((Int.tmod (wrap64 (rd l2 0)) 128) + 3))) else (some (([] : List Int), false, (-1))))))) else (none)) else (none)))) else (none))) else (some (([] : List Int), false, (-1)))) = some (r1, r2, r3) := H
  have A4 := Aside0.mk A40
  clear A40
  by_cases c5 : t179 = true
  · subst c5
    have H1 : (if (l2.length : Int) = 0 then (some (([] : List Int), false, 0)) else (if 0 < (l2.length : Int) then (if (Int.tmod (wrap64 (rd l2 0)) 128) > 10 then (some (([] : List Int), false, (-1))) else (if (l2.length : Int) < (wrap64 ((Int.tmod (wrap64 (rd l2 0)) 128) + 3)) then (some (([] : List Int), false, 0)) else (if 1 ≤ (wrap64 ((Int.tmod (wrap64 (rd l2 0)) 128) + 1)) then (if (wrap64 ((Int.tmod (wrap64 (rd l2 0)) 128) + 1)) ≤ (l2.length : Int) then ((impl_clone_byte.f ((l2.take ((wrap64 ((Int.tmod (wrap64 (rd l2 0)) 128) + 1)) : Int).toNat).drop 1)).bind fun t183 => ((impl_SealOf.f k a0 a1 t183 (decide ((rd l2 0) ≥ 128))).bind fun t186 => ((impl_NumberAt.f k l2 (wrap64 ((Int.tmod (wrap64 (rd l2 0)) 128) + 1)) 2).bind fun t187 => (if t186 = t187 then (some (t183, decide ((rd l2 0) ≥ 128), wrap64 ((Int.tmod (wrap64 (rd l2 0)) 128) + 3))) else (some (([] : List Int), false, (-1))))))) else (none)) else (none)))) else (none))) = some (r1, r2, r3) := by rw [if_pos rfl] at H; exact H
    clear H
    have H := H1
    clear H1
    by_cases c6 : (l2.length : Int) = 0
    · rw [if_pos c6] at H
      have c6b0 : ((l2.length : Int) == 0) = true := beq_iff_eq.mpr c6
      have c6b1 : ((l2.length : Int) != 0) = false := bne_eq_false_iff_eq.mpr c6
      clear c6
      simp only [Option.some.injEq, Prod.mk.injEq] at H
      obtain ⟨rfl, rfl, rfl⟩ := H
      go_enter Try.func26, Try.ntmps26
      go_wp2_with (first | (go_at_call 42; (refine (impl_sealOk.calls a0 a1 _ _ ([] : List Int) true _ ?side1 ?side2 A4.out).mono ?_); (case side1 => exact Kd.C_nil _ _); (case side2 => exact Nat.le_refl _); rintro e w' ⟨rfl, ⟨nd, rfl⟩⟩; (try first | exact ⟨rfl, _, World.drewN_drewN _ _ _⟩ | exact ⟨rfl, _, Eq.trans (World.drewN_drewN _ _ _) (congrArg (World.drewN _) (Nat.add_assoc _ _ _))⟩)))
      repeat (go_quiet (first | (go_at_call 42; (refine (impl_sealOk.calls a0 a1 _ _ ([] : List Int) true _ ?side1 ?side2 A4.out).mono ?_); (case side1 => exact Kd.C_nil _ _); (case side2 => exact Nat.le_refl _); rintro e w' ⟨rfl, ⟨nd, rfl⟩⟩; (try first | exact ⟨rfl, _, World.drewN_drewN _ _ _⟩ | exact ⟨rfl, _, Eq.trans (World.drewN_drewN _ _ _) (congrArg (World.drewN _) (Nat.add_assoc _ _ _))⟩))); try go_wp2_with (first | (go_at_call 42; (refine (impl_sealOk.calls a0 a1 _ _ ([] : List Int) true _ ?side1 ?side2 A4.out).mono ?_); (case side1 => exact Kd.C_nil _ _); (case side2 => exact Nat.le_refl _); rintro e w' ⟨rfl, ⟨nd, rfl⟩⟩; (try first | exact ⟨rfl, _, World.drewN_drewN _ _ _⟩ | exact ⟨rfl, _, Eq.trans (World.drewN_drewN _ _ _) (congrArg (World.drewN _) (Nat.add_assoc _ _ _))⟩))))
      go_ret3
      exact ⟨_, by first | rfl | (simp [errW_none, errW_some] <;> rfl) | (simp [*, errW_none, errW_some] <;> rfl), by first | exact Kd.R_nil _ _ _ _ _ | exact Kd.N_nil _ _ _ _ _ | exact Kd.V_nil _ _ _ _ _ | exact Kd.Q_nil _ _ _ _ _ | exact Kd.S_nil _ _ _ _ _, by repeat (first | (with_reducible first | exact HB.out | apply below_alloc | apply pw_below_drewN | apply below_drew1) | exact HB.out)⟩
    · rw [if_neg c6] at H
      have c6b0 : ((l2.length : Int) == 0) = false := beq_eq_false_iff_ne.mpr c6
      have c6b1 : ((l2.length : Int) != 0) = true := bne_iff_ne.mpr c6
      have c6b2 : ¬ (l2 = []) := fun h_ => c6 (by rw [h_]; rfl)
      by_cases c7 : 0 < (l2.length : Int)
      · rw [if_pos c7] at H
        have c7b0 : decide (0 < (l2.length : Int)) = true := decide_eq_true c7
        have c7b1 : decide (0 < l2.length) = true := decide_eq_true (by omega)
        clear c7
        by_cases c8 : (Int.tmod (wrap64 (rd l2 0)) 128) > 10
        · rw [if_pos c8] at H
          have c8b0 : decide (10 < (Int.tmod (wrap64 (rd l2 0)) 128)) = true := decide_eq_true c8
          clear c8
          simp only [Option.some.injEq, Prod.mk.injEq] at H
          obtain ⟨rfl, rfl, rfl⟩ := H
          go_enter Try.func26, Try.ntmps26
          go_wp2_with (first | (go_at_call 42; (refine (impl_sealOk.calls a0 a1 _ _ ([] : List Int) true _ ?side1 ?side2 A4.out).mono ?_); (case side1 => exact Kd.C_nil _ _); (case side2 => exact Nat.le_refl _); rintro e w' ⟨rfl, ⟨nd, rfl⟩⟩; (try first | exact ⟨rfl, _, World.drewN_drewN _ _ _⟩ | exact ⟨rfl, _, Eq.trans (World.drewN_drewN _ _ _) (congrArg (World.drewN _) (Nat.add_assoc _ _ _))⟩); have p180 : 0 ≤ (0 : Int) := (by omega); have q180 : 0 < (l2.length : Int) := of_decide_eq_true (by first | (with_reducible assumption) | assumption); obtain ⟨ad180, e180, hx180_0⟩ := Kd.at_int HR2.out 0 p180 q180; cases e180; have qi180 : (0 < l2.length) = True := eq_true (by omega); (try rw [show ((0 : Int)).toNat = 0 from rfl] at hx180_0); (try rw [Addr.add_zero'] at hx180_0); replace p180 := eq_true p180; replace q180 := eq_true q180; have p181 : 0 ≤ (0 : Int) := (by omega); have q181 : 0 < (l2.length : Int) := of_decide_eq_true (by first | (with_reducible assumption) | assumption); obtain ⟨ad181, e181, hx181_0⟩ := Kd.at_int HR2.out 0 p181 q181; obtain rfl : ad180 = ad181 := (by injection e181); have qi181 : (0 < l2.length) = True := eq_true (by omega); (try rw [show ((0 : Int)).toNat = 0 from rfl] at hx181_0); (try rw [Addr.add_zero'] at hx181_0); replace p181 := eq_true p181; replace q181 := eq_true q181))
          repeat (go_quiet (first | (go_at_call 42; (refine (impl_sealOk.calls a0 a1 _ _ ([] : List Int) true _ ?side1 ?side2 A4.out).mono ?_); (case side1 => exact Kd.C_nil _ _); (case side2 => exact Nat.le_refl _); rintro e w' ⟨rfl, ⟨nd, rfl⟩⟩; (try first | exact ⟨rfl, _, World.drewN_drewN _ _ _⟩ | exact ⟨rfl, _, Eq.trans (World.drewN_drewN _ _ _) (congrArg (World.drewN _) (Nat.add_assoc _ _ _))⟩); have p180 : 0 ≤ (0 : Int) := (by omega); have q180 : 0 < (l2.length : Int) := of_decide_eq_true (by first | (with_reducible assumption) | assumption); obtain ⟨ad180, e180, hx180_0⟩ := Kd.at_int HR2.out 0 p180 q180; cases e180; have qi180 : (0 < l2.length) = True := eq_true (by omega); (try rw [show ((0 : Int)).toNat = 0 from rfl] at hx180_0); (try rw [Addr.add_zero'] at hx180_0); replace p180 := eq_true p180; replace q180 := eq_true q180; have p181 : 0 ≤ (0 : Int) := (by omega); have q181 : 0 < (l2.length : Int) := of_decide_eq_true (by first | (with_reducible assumption) | assumption); obtain ⟨ad181, e181, hx181_0⟩ := Kd.at_int HR2.out 0 p181 q181; obtain rfl : ad180 = ad181 := (by injection e181); have qi181 : (0 < l2.length) = True := eq_true (by omega); (try rw [show ((0 : Int)).toNat = 0 from rfl] at hx181_0); (try rw [Addr.add_zero'] at hx181_0); replace p181 := eq_true p181; replace q181 := eq_true q181)); try go_wp2_with (first | (go_at_call 42; (refine (impl_sealOk.calls a0 a1 _ _ ([] : List Int) true _ ?side1 ?side2 A4.out).mono ?_); (case side1 => exact Kd.C_nil _ _); (case side2 => exact Nat.le_refl _); rintro e w' ⟨rfl, ⟨nd, rfl⟩⟩; (try first | exact ⟨rfl, _, World.drewN_drewN _ _ _⟩ | exact ⟨rfl, _, Eq.trans (World.drewN_drewN _ _ _) (congrArg (World.drewN _) (Nat.add_assoc _ _ _))⟩); have p180 : 0 ≤ (0 : Int) := (by omega); have q180 : 0 < (l2.length : Int) := of_decide_eq_true (by first | (with_reducible assumption) | assumption); obtain ⟨ad180, e180, hx180_0⟩ := Kd.at_int HR2.out 0 p180 q180; cases e180; have qi180 : (0 < l2.length) = True := eq_true (by omega); (try rw [show ((0 : Int)).toNat = 0 from rfl] at hx180_0); (try rw [Addr.add_zero'] at hx180_0); replace p180 := eq_true p180; replace q180 := eq_true q180; have p181 : 0 ≤ (0 : Int) := (by omega); have q181 : 0 < (l2.length : Int) := of_decide_eq_true (by first | (with_reducible assumption) | assumption); obtain ⟨ad181, e181, hx181_0⟩ := Kd.at_int HR2.out 0 p181 q181; obtain rfl : ad180 = ad181 := (by injection e181); have qi181 : (0 < l2.length) = True := eq_true (by omega); (try rw [show ((0 : Int)).toNat = 0 from rfl] at hx181_0); (try rw [Addr.add_zero'] at hx181_0); replace p181 := eq_true p181; replace q181 := eq_true q181)))
          go_ret3
          exact ⟨_, by first | rfl | (simp [errW_none, errW_some] <;> rfl) | (simp [*, errW_none, errW_some] <;> rfl), by first | exact Kd.R_nil _ _ _ _ _ | exact Kd.N_nil _ _ _ _ _ | exact Kd.V_nil _ _ _ _ _ | exact Kd.Q_nil _ _ _ _ _ | exact Kd.S_nil _ _ _ _ _, by repeat (first | (with_reducible first | exact HB.out | apply below_alloc | apply pw_below_drewN | apply below_drew1) | exact HB.out)⟩
        · rw [if_neg c8] at H
          have c8b0 : decide (10 < (Int.tmod (wrap64 (rd l2 0)) 128)) = false := decide_eq_false c8
          clear c8
          by_cases c9 : (l2.length : Int) < (wrap64 ((Int.tmod (wrap64 (rd l2 0)) 128) + 3))
          · rw [if_pos c9] at H
            have c9b0 : decide ((l2.length : Int) < (wrap64 ((Int.tmod (wrap64 (rd l2 0)) 128) + 3))) = true := decide_eq_true c9
            clear c9
            simp only [Option.some.injEq, Prod.mk.injEq] at H
            obtain ⟨rfl, rfl, rfl⟩ := H
            go_enter Try.func26, Try.ntmps26
            go_wp2_with (first | (go_at_call 42; (refine (impl_sealOk.calls a0 a1 _ _ ([] : List Int) true _ ?side1 ?side2 A4.out).mono ?_); (case side1 => exact Kd.C_nil _ _); (case side2 => exact Nat.le_refl _); rintro e w' ⟨rfl, ⟨nd, rfl⟩⟩; (try first | exact ⟨rfl, _, World.drewN_drewN _ _ _⟩ | exact ⟨rfl, _, Eq.trans (World.drewN_drewN _ _ _) (congrArg (World.drewN _) (Nat.add_assoc _ _ _))⟩); have p180 : 0 ≤ (0 : Int) := (by omega); have q180 : 0 < (l2.length : Int) := of_decide_eq_true (by first | (with_reducible assumption) | assumption); obtain ⟨ad180, e180, hx180_0⟩ := Kd.at_int HR2.out 0 p180 q180; cases e180; have qi180 : (0 < l2.length) = True := eq_true (by omega); (try rw [show ((0 : Int)).toNat = 0 from rfl] at hx180_0); (try rw [Addr.add_zero'] at hx180_0); replace p180 := eq_true p180; replace q180 := eq_true q180; have p181 : 0 ≤ (0 : Int) := (by omega); have q181 : 0 < (l2.length : Int) := of_decide_eq_true (by first | (with_reducible assumption) | assumption); obtain ⟨ad181, e181, hx181_0⟩ := Kd.at_int HR2.out 0 p181 q181; obtain rfl : ad180 = ad181 := (by injection e181); have qi181 : (0 < l2.length) = True := eq_true (by omega); (try rw [show ((0 : Int)).toNat = 0 from rfl] at hx181_0); (try rw [Addr.add_zero'] at hx181_0); replace p181 := eq_true p181; replace q181 := eq_true q181))
            repeat (go_quiet (first | (go_at_call 42; (refine (impl_sealOk.calls a0 a1 _ _ ([] : List Int) true _ ?side1 ?side2 A4.out).mono ?_); (case side1 => exact Kd.C_nil _ _); (case side2 => exact Nat.le_refl _); rintro e w' ⟨rfl, ⟨nd, rfl⟩⟩; (try first | exact ⟨rfl, _, World.drewN_drewN _ _ _⟩ | exact ⟨rfl, _, Eq.trans (World.drewN_drewN _ _ _) (congrArg (World.drewN _) (Nat.add_assoc _ _ _))⟩); have p180 : 0 ≤ (0 : Int) := (by omega); have q180 : 0 < (l2.length : Int) := of_decide_eq_true (by first | (with_reducible assumption) | assumption); obtain ⟨ad180, e180, hx180_0⟩ := Kd.at_int HR2.out 0 p180 q180; cases e180; have qi180 : (0 < l2.length) = True := eq_true (by omega); (try rw [show ((0 : Int)).toNat = 0 from rfl] at hx180_0); (try rw [Addr.add_zero'] at hx180_0); replace p180 := eq_true p180; replace q180 := eq_true q180; have p181 : 0 ≤ (0 : Int) := (by omega); have q181 : 0 < (l2.length : Int) := of_decide_eq_true (by first | (with_reducible assumption) | assumption); obtain ⟨ad181, e181, hx181_0⟩ := Kd.at_int HR2.out 0 p181 q181; obtain rfl : ad180 = ad181 := (by injection e181); have qi181 : (0 < l2.length) = True := eq_true (by omega); (try rw [show ((0 : Int)).toNat = 0 from rfl] at hx181_0); (try rw [Addr.add_zero'] at hx181_0); replace p181 := eq_true p181; replace q181 := eq_true q181)); try go_wp2_with (first | (go_at_call 42; (refine (impl_sealOk.calls a0 a1 _ _ ([] : List Int) true _ ?side1 ?side2 A4.out).mono ?_); (case side1 => exact Kd.C_nil _ _); (case side2 => exact Nat.le_refl _); rintro e w' ⟨rfl, ⟨nd, rfl⟩⟩; (try first | exact ⟨rfl, _, World.drewN_drewN _ _ _⟩ | exact ⟨rfl, _, Eq.trans (World.drewN_drewN _ _ _) (congrArg (World.drewN _) (Nat.add_assoc _ _ _))⟩); have p180 : 0 ≤ (0 : Int) := (by omega); have q180 : 0 < (l2.length : Int) := of_decide_eq_true (by first | (with_reducible assumption) | assumption); obtain ⟨ad180, e180, hx180_0⟩ := Kd.at_int HR2.out 0 p180 q180; cases e180; have qi180 : (0 < l2.length) = True := eq_true (by omega); (try rw [show ((0 : Int)).toNat = 0 from rfl] at hx180_0); (try rw [Addr.add_zero'] at hx180_0); replace p180 := eq_true p180; replace q180 := eq_true q180; have p181 : 0 ≤ (0 : Int) := (by omega); have q181 : 0 < (l2.length : Int) := of_decide_eq_true (by first | (with_reducible assumption) | assumption); obtain ⟨ad181, e181, hx181_0⟩ := Kd.at_int HR2.out 0 p181 q181; obtain rfl : ad180 = ad181 := (by injection e181); have qi181 : (0 < l2.length) = True := eq_true (by omega); (try rw [show ((0 : Int)).toNat = 0 from rfl] at hx181_0); (try rw [Addr.add_zero'] at hx181_0); replace p181 := eq_true p181; replace q181 := eq_true q181)))
            go_ret3
            exact ⟨_, by first | rfl | (simp [errW_none, errW_some] <;> rfl) | (simp [*, errW_none, errW_some] <;> rfl), by first | exact Kd.R_nil _ _ _ _ _ | exact Kd.N_nil _ _ _ _ _ | exact Kd.V_nil _ _ _ _ _ | exact Kd.Q_nil _ _ _ _ _ | exact Kd.S_nil _ _ _ _ _, by repeat (first | (with_reducible first | exact HB.out | apply below_alloc | apply pw_below_drewN | apply below_drew1) | exact HB.out)⟩
          · rw [if_neg c9] at H
            have c9b0 : decide ((l2.length : Int) < (wrap64 ((Int.tmod (wrap64 (rd l2 0)) 128) + 3))) = false := decide_eq_false c9
            clear c9
            by_cases c10 : 1 ≤ (wrap64 ((Int.tmod (wrap64 (rd l2 0)) 128) + 1))
            · rw [if_pos c10] at H
              have c10b0 := eq_true c10
              have c10b1 : decide (1 ≤ (wrap64 ((Int.tmod (wrap64 (rd l2 0)) 128) + 1))) = true := decide_eq_true c10
              by_cases c11 : (wrap64 ((Int.tmod (wrap64 (rd l2 0)) 128) + 1)) ≤ (l2.length : Int)
              · rw [if_pos c11] at H
                have c11b0 := eq_true c11
                have c11b1 : decide ((wrap64 ((Int.tmod (wrap64 (rd l2 0)) 128) + 1)) ≤ (l2.length : Int)) = true := decide_eq_true c11
                replace H := Option.bind_eq_some_iff.mp H
                obtain ⟨t183, A120, H⟩ := H
                replace H : ((impl_SealOf.f k a0 a1 t183 (decide ((rd l2 0) ≥ 128))).bind fun t186 => ((impl_NumberAt.f k l2 (wrap64 ((Int.tmod (wrap64 (rd l2 0)) 128) + 1)) 2).bind fun t187 => (if t186 = t187 then (some (t183, decide ((rd l2 0) ≥ 128), wrap64 ((Int.tmod (wrap64 (rd l2 0)) 128) + 3))) else (some (([] : List Int), false, (-1)))))) = some (r1, r2, r3) := H
                have A12 := Aside0.mk A120
                clear A120
                replace H := Option.bind_eq_some_iff.mp H
                obtain ⟨t186, A130, H⟩ := H
                replace H : ((impl_NumberAt.f k l2 (wrap64 ((Int.tmod (wrap64 (rd l2 0)) 128) + 1)) 2).bind fun t187 => (if t186 = t187 then (some (t183, decide ((rd l2 0) ≥ 128), wrap64 ((Int.tmod (wrap64 (rd l2 0)) 128) + 3))) else (some (([] : List Int), false, (-1))))) = some (r1, r2, r3) := H
                have A13 := Aside0.mk A130
                clear A130
                replace H := Option.bind_eq_some_iff.mp H
                obtain ⟨t187, A140, H⟩ := H
                replace H : (if t186 = t187 then (some (t183, decide ((rd l2 0) ≥ 128), wrap64 ((Int.tmod (wrap64 (rd l2 0)) 128) + 3))) else (some (([] : List Int), false, (-1)))) = some (r1, r2, r3) := H
                have A14 := Aside0.mk A140
                clear A140
                by_cases c15 : t186 = t187
                · rw [if_pos c15] at H
                  have c15b0 : (t186 == t187) = true := beq_iff_eq.mpr c15
                  have c15b1 : (t186 != t187) = false := bne_eq_false_iff_eq.mpr c15
                  clear c15
                  simp only [Option.some.injEq, Prod.mk.injEq] at H
                  obtain ⟨rfl, rfl, rfl⟩ := H
                  go_enter Try.func26, Try.ntmps26
                  go_wp2_with (first | (go_at_call 42; (refine (impl_sealOk.calls a0 a1 _ _ ([] : List Int) true _ ?side1 ?side2 A4.out).mono ?_); (case side1 => exact Kd.C_nil _ _); (case side2 => exact Nat.le_refl _); rintro e w' ⟨rfl, ⟨nd, rfl⟩⟩; (try first | exact ⟨rfl, _, World.drewN_drewN _ _ _⟩ | exact ⟨rfl, _, Eq.trans (World.drewN_drewN _ _ _) (congrArg (World.drewN _) (Nat.add_assoc _ _ _))⟩); have p180 : 0 ≤ (0 : Int) := (by omega); have q180 : 0 < (l2.length : Int) := of_decide_eq_true (by first | (with_reducible assumption) | assumption); obtain ⟨ad180, e180, hx180_0⟩ := Kd.at_int HR2.out 0 p180 q180; cases e180; have qi180 : (0 < l2.length) = True := eq_true (by omega); (try rw [show ((0 : Int)).toNat = 0 from rfl] at hx180_0); (try rw [Addr.add_zero'] at hx180_0); replace p180 := eq_true p180; replace q180 := eq_true q180; have p181 : 0 ≤ (0 : Int) := (by omega); have q181 : 0 < (l2.length : Int) := of_decide_eq_true (by first | (with_reducible assumption) | assumption); obtain ⟨ad181, e181, hx181_0⟩ := Kd.at_int HR2.out 0 p181 q181; obtain rfl : ad180 = ad181 := (by injection e181); have qi181 : (0 < l2.length) = True := eq_true (by omega); (try rw [show ((0 : Int)).toNat = 0 from rfl] at hx181_0); (try rw [Addr.add_zero'] at hx181_0); replace p181 := eq_true p181; replace q181 := eq_true q181; obtain ⟨i016, hi016, _, hsz16, _⟩ := info_parts info5; obtain ⟨A16, hcut16, hA16, hC16⟩ := print_mid_of (P := Try.prog) (Value.int .u8) 0 22 5 .i64 .i64 Try.underlying22 hi016 hsz16 (some ad180) c2 l2 1 (wrap64 ((Int.tmod (wrap64 (rd l2 0)) 128) + 1)) (by omega) (by first | omega | exact of_decide_eq_true (by first | (with_reducible assumption) | assumption)) (of_decide_eq_true (by first | (with_reducible assumption) | assumption)) HC2.out; have HR182 := Aside0.mk (Kd.C_of_reads (h1 := fun _ => rfl) (hA16 _ (Kd.reads_of_C HR2.out))); have HC182 := Aside0.mk hC16; clear hA16 hC16 hi016 hsz16; obtain ⟨xs_, hxs_⟩ : ∃ x_ : List Int, x_ = ((l2.take ((wrap64 ((Int.tmod (wrap64 (rd l2 0)) 128) + 1)) : Int).toNat).drop (1 : Int).toNat) := ⟨_, rfl⟩; have hxt_ : xs_ = ((l2.take ((wrap64 ((Int.tmod (wrap64 (rd l2 0)) 128) + 1)) : Int).toNat).drop 1) := hxs_; rw [← hxs_] at hcut16 HR182 HC182; rw [← hxt_] at A12; clear hxs_ hxt_) | (go_at_call 54; (with_reducible refine (impl_clone_byte.calls _ _ xs_ t183 _ ?side1 ?side2 A12.out).mono ?_); (case side1 => repeat (first | exact HR182.out | (with_reducible refine Kd.C_alloc ?_ _) | (with_reducible refine Kd.C_drewN ?_ _) | (with_reducible refine Kd.C_drew ?_))); (case side2 => exact HC182.out); rintro e w17 ⟨v184, rfl, ho0, hb⟩; have n0_ := Aside0.mk (Kd.R_lower ho0 (below_size (by repeat (first | (with_reducible first | exact HB.out | apply below_alloc | apply pw_below_drewN | apply below_drew1) | exact HB.out)))); have n1_ := Aside0.mk (below_step (by repeat (first | (with_reducible first | exact HB.out | apply below_alloc | apply pw_below_drewN | apply below_drew1) | exact HB.out)) hb); clear HB; have HO185 := n0_; have HB := n1_; clear n0_ n1_; (try clear hb); (try clear hb2); (try clear hk); (try clear hi); (try clear ho0); obtain ⟨Ao18, co18, eo18⟩ := Kd.R_slice HO185.out; subst eo18) | (go_at_call 17; (with_reducible refine (impl_SealOf.calls k a0 a1 _ _ t183 (decide ((rd l2 0) ≥ 128)) t186 _ ?side1 ?side2 A13.out).mono ?_); (case side1 => repeat (first | exact (Kd.R_reads' HO185.out).2.2 | (with_reducible refine Kd.C_alloc ?_ _) | (with_reducible refine Kd.C_drewN ?_ _) | (with_reducible refine Kd.C_drew ?_))); (case side2 => exact (Kd.R_reads' HO185.out).2.1); rintro e w19 ⟨rfl, hb⟩; have n0_ := Aside0.mk (Kd.R_below (by (with_reducible repeat (first | apply Kd.R_alloc | apply Kd.R_drewN | apply Kd.R_drew)); exact HO185.out) hb); have n1_ := Aside0.mk (below_step (by repeat (first | (with_reducible first | exact HB.out | apply below_alloc | apply pw_below_drewN | apply below_drew1) | exact HB.out)) hb); clear HO185; clear HB; have HO185 := n0_; have HB := n1_; clear n0_ n1_; (try clear hb); (try clear hb2); (try clear hk); (try clear hi)) | (go_at_call 55; (with_reducible refine (impl_NumberAt.calls k _ _ l2 (wrap64 ((Int.tmod (wrap64 (rd l2 0)) 128) + 1)) 2 t187 _ ?side1 ?side2 A14.out).mono ?_); (case side1 => repeat (first | exact (Kd.C_below HR2.out HB.out) | (with_reducible refine Kd.C_alloc ?_ _) | (with_reducible refine Kd.C_drewN ?_ _) | (with_reducible refine Kd.C_drew ?_))); (case side2 => exact HC2.out); rintro e w' ⟨rfl, ⟨nd, rfl⟩⟩; (try first | exact ⟨rfl, _, World.drewN_drewN _ _ _⟩ | exact ⟨rfl, _, Eq.trans (World.drewN_drewN _ _ _) (congrArg (World.drewN _) (Nat.add_assoc _ _ _))⟩)))
                  repeat (go_quiet (first | (go_at_call 42; (refine (impl_sealOk.calls a0 a1 _ _ ([] : List Int) true _ ?side1 ?side2 A4.out).mono ?_); (case side1 => exact Kd.C_nil _ _); (case side2 => exact Nat.le_refl _); rintro e w' ⟨rfl, ⟨nd, rfl⟩⟩; (try first | exact ⟨rfl, _, World.drewN_drewN _ _ _⟩ | exact ⟨rfl, _, Eq.trans (World.drewN_drewN _ _ _) (congrArg (World.drewN _) (Nat.add_assoc _ _ _))⟩); have p180 : 0 ≤ (0 : Int) := (by omega); have q180 : 0 < (l2.length : Int) := of_decide_eq_true (by first | (with_reducible assumption) | assumption); obtain ⟨ad180, e180, hx180_0⟩ := Kd.at_int HR2.out 0 p180 q180; cases e180; have qi180 : (0 < l2.length) = True := eq_true (by omega); (try rw [show ((0 : Int)).toNat = 0 from rfl] at hx180_0); (try rw [Addr.add_zero'] at hx180_0); replace p180 := eq_true p180; replace q180 := eq_true q180; have p181 : 0 ≤ (0 : Int) := (by omega); have q181 : 0 < (l2.length : Int) := of_decide_eq_true (by first | (with_reducible assumption) | assumption); obtain ⟨ad181, e181, hx181_0⟩ := Kd.at_int HR2.out 0 p181 q181; obtain rfl : ad180 = ad181 := (by injection e181); have qi181 : (0 < l2.length) = True := eq_true (by omega); (try rw [show ((0 : Int)).toNat = 0 from rfl] at hx181_0); (try rw [Addr.add_zero'] at hx181_0); replace p181 := eq_true p181; replace q181 := eq_true q181; obtain ⟨i016, hi016, _, hsz16, _⟩ := info_parts info5; obtain ⟨A16, hcut16, hA16, hC16⟩ := print_mid_of (P := Try.prog) (Value.int .u8) 0 22 5 .i64 .i64 Try.underlying22 hi016 hsz16 (some ad180) c2 l2 1 (wrap64 ((Int.tmod (wrap64 (rd l2 0)) 128) + 1)) (by omega) (by first | omega | exact of_decide_eq_true (by first | (with_reducible assumption) | assumption)) (of_decide_eq_true (by first | (with_reducible assumption) | assumption)) HC2.out; have HR182 := Aside0.mk (Kd.C_of_reads (h1 := fun _ => rfl) (hA16 _ (Kd.reads_of_C HR2.out))); have HC182 := Aside0.mk hC16; clear hA16 hC16 hi016 hsz16; obtain ⟨xs_, hxs_⟩ : ∃ x_ : List Int, x_ = ((l2.take ((wrap64 ((Int.tmod (wrap64 (rd l2 0)) 128) + 1)) : Int).toNat).drop (1 : Int).toNat) := ⟨_, rfl⟩; have hxt_ : xs_ = ((l2.take ((wrap64 ((Int.tmod (wrap64 (rd l2 0)) 128) + 1)) : Int).toNat).drop 1) := hxs_; rw [← hxs_] at hcut16 HR182 HC182; rw [← hxt_] at A12; clear hxs_ hxt_) | (go_at_call 54; (with_reducible refine (impl_clone_byte.calls _ _ xs_ t183 _ ?side1 ?side2 A12.out).mono ?_); (case side1 => repeat (first | exact HR182.out | (with_reducible refine Kd.C_alloc ?_ _) | (with_reducible refine Kd.C_drewN ?_ _) | (with_reducible refine Kd.C_drew ?_))); (case side2 => exact HC182.out); rintro e w17 ⟨v184, rfl, ho0, hb⟩; have n0_ := Aside0.mk (Kd.R_lower ho0 (below_size (by repeat (first | (with_reducible first | exact HB.out | apply below_alloc | apply pw_below_drewN | apply below_drew1) | exact HB.out)))); have n1_ := Aside0.mk (below_step (by repeat (first | (with_reducible first | exact HB.out | apply below_alloc | apply pw_below_drewN | apply below_drew1) | exact HB.out)) hb); clear HB; have HO185 := n0_; have HB := n1_; clear n0_ n1_; (try clear hb); (try clear hb2); (try clear hk); (try clear hi); (try clear ho0); obtain ⟨Ao18, co18, eo18⟩ := Kd.R_slice HO185.out; subst eo18) | (go_at_call 17; (with_reducible refine (impl_SealOf.calls k a0 a1 _ _ t183 (decide ((rd l2 0) ≥ 128)) t186 _ ?side1 ?side2 A13.out).mono ?_); (case side1 => repeat (first | exact (Kd.R_reads' HO185.out).2.2 | (with_reducible refine Kd.C_alloc ?_ _) | (with_reducible refine Kd.C_drewN ?_ _) | (with_reducible refine Kd.C_drew ?_))); (case side2 => exact (Kd.R_reads' HO185.out).2.1); rintro e w19 ⟨rfl, hb⟩; have n0_ := Aside0.mk (Kd.R_below (by (with_reducible repeat (first | apply Kd.R_alloc | apply Kd.R_drewN | apply Kd.R_drew)); exact HO185.out) hb); have n1_ := Aside0.mk (below_step (by repeat (first | (with_reducible first | exact HB.out | apply below_alloc | apply pw_below_drewN | apply below_drew1) | exact HB.out)) hb); clear HO185; clear HB; have HO185 := n0_; have HB := n1_; clear n0_ n1_; (try clear hb); (try clear hb2); (try clear hk); (try clear hi)) | (go_at_call 55; (with_reducible refine (impl_NumberAt.calls k _ _ l2 (wrap64 ((Int.tmod (wrap64 (rd l2 0)) 128) + 1)) 2 t187 _ ?side1 ?side2 A14.out).mono ?_); (case side1 => repeat (first | exact (Kd.C_below HR2.out HB.out) | (with_reducible refine Kd.C_alloc ?_ _) | (with_reducible refine Kd.C_drewN ?_ _) | (with_reducible refine Kd.C_drew ?_))); (case side2 => exact HC2.out); rintro e w' ⟨rfl, ⟨nd, rfl⟩⟩; (try first | exact ⟨rfl, _, World.drewN_drewN _ _ _⟩ | exact ⟨rfl, _, Eq.trans (World.drewN_drewN _ _ _) (congrArg (World.drewN _) (Nat.add_assoc _ _ _))⟩))); try go_wp2_with (first | (go_at_call 42; (refine (impl_sealOk.calls a0 a1 _ _ ([] : List Int) true _ ?side1 ?side2 A4.out).mono ?_); (case side1 => exact Kd.C_nil _ _); (case side2 => exact Nat.le_refl _); rintro e w' ⟨rfl, ⟨nd, rfl⟩⟩; (try first | exact ⟨rfl, _, World.drewN_drewN _ _ _⟩ | exact ⟨rfl, _, Eq.trans (World.drewN_drewN _ _ _) (congrArg (World.drewN _) (Nat.add_assoc _ _ _))⟩); have p180 : 0 ≤ (0 : Int) := (by omega); have q180 : 0 < (l2.length : Int) := of_decide_eq_true (by first | (with_reducible assumption) | assumption); obtain ⟨ad180, e180, hx180_0⟩ := Kd.at_int HR2.out 0 p180 q180; cases e180; have qi180 : (0 < l2.length) = True := eq_true (by omega); (try rw [show ((0 : Int)).toNat = 0 from rfl] at hx180_0); (try rw [Addr.add_zero'] at hx180_0); replace p180 := eq_true p180; replace q180 := eq_true q180; have p181 : 0 ≤ (0 : Int) := (by omega); have q181 : 0 < (l2.length : Int) := of_decide_eq_true (by first | (with_reducible assumption) | assumption); obtain ⟨ad181, e181, hx181_0⟩ := Kd.at_int HR2.out 0 p181 q181; obtain rfl : ad180 = ad181 := (by injection e181); have qi181 : (0 < l2.length) = True := eq_true (by omega); (try rw [show ((0 : Int)).toNat = 0 from rfl] at hx181_0); (try rw [Addr.add_zero'] at hx181_0); replace p181 := eq_true p181; replace q181 := eq_true q181; obtain ⟨i016, hi016, _, hsz16, _⟩ := info_parts info5; obtain ⟨A16, hcut16, hA16, hC16⟩ := print_mid_of (P := Try.prog) (Value.int .u8) 0 22 5 .i64 .i64 Try.underlying22 hi016 hsz16 (some ad180) c2 l2 1 (wrap64 ((Int.tmod (wrap64 (rd l2 0)) 128) + 1)) (by omega) (by first | omega | exact of_decide_eq_true (by first | (with_reducible assumption) | assumption)) (of_decide_eq_true (by first | (with_reducible assumption) | assumption)) HC2.out; have HR182 := Aside0.mk (Kd.C_of_reads (h1 := fun _ => rfl) (hA16 _ (Kd.reads_of_C HR2.out))); have HC182 := Aside0.mk hC16; clear hA16 hC16 hi016 hsz16; obtain ⟨xs_, hxs_⟩ : ∃ x_ : List Int, x_ = ((l2.take ((wrap64 ((Int.tmod (wrap64 (rd l2 0)) 128) + 1)) : Int).toNat).drop (1 : Int).toNat) := ⟨_, rfl⟩; have hxt_ : xs_ = ((l2.take ((wrap64 ((Int.tmod (wrap64 (rd l2 0)) 128) + 1)) : Int).toNat).drop 1) := hxs_; rw [← hxs_] at hcut16 HR182 HC182; rw [← hxt_] at A12; clear hxs_ hxt_) | (go_at_call 54; (with_reducible refine (impl_clone_byte.calls _ _ xs_ t183 _ ?side1 ?side2 A12.out).mono ?_); (case side1 => repeat (first | exact HR182.out | (with_reducible refine Kd.C_alloc ?_ _) | (with_reducible refine Kd.C_drewN ?_ _) | (with_reducible refine Kd.C_drew ?_))); (case side2 => exact HC182.out); rintro e w17 ⟨v184, rfl, ho0, hb⟩; have n0_ := Aside0.mk (Kd.R_lower ho0 (below_size (by repeat (first | (with_reducible first | exact HB.out | apply below_alloc | apply pw_below_drewN | apply below_drew1) | exact HB.out)))); have n1_ := Aside0.mk (below_step (by repeat (first | (with_reducible first | exact HB.out | apply below_alloc | apply pw_below_drewN | apply below_drew1) | exact HB.out)) hb); clear HB; have HO185 := n0_; have HB := n1_; clear n0_ n1_; (try clear hb); (try clear hb2); (try clear hk); (try clear hi); (try clear ho0); obtain ⟨Ao18, co18, eo18⟩ := Kd.R_slice HO185.out; subst eo18) | (go_at_call 17; (with_reducible refine (impl_SealOf.calls k a0 a1 _ _ t183 (decide ((rd l2 0) ≥ 128)) t186 _ ?side1 ?side2 A13.out).mono ?_); (case side1 => repeat (first | exact (Kd.R_reads' HO185.out).2.2 | (with_reducible refine Kd.C_alloc ?_ _) | (with_reducible refine Kd.C_drewN ?_ _) | (with_reducible refine Kd.C_drew ?_))); (case side2 => exact (Kd.R_reads' HO185.out).2.1); rintro e w19 ⟨rfl, hb⟩; have n0_ := Aside0.mk (Kd.R_below (by (with_reducible repeat (first | apply Kd.R_alloc | apply Kd.R_drewN | apply Kd.R_drew)); exact HO185.out) hb); have n1_ := Aside0.mk (below_step (by repeat (first | (with_reducible first | exact HB.out | apply below_alloc | apply pw_below_drewN | apply below_drew1) | exact HB.out)) hb); clear HO185; clear HB; have HO185 := n0_; have HB := n1_; clear n0_ n1_; (try clear hb); (try clear hb2); (try clear hk); (try clear hi)) | (go_at_call 55; (with_reducible refine (impl_NumberAt.calls k _ _ l2 (wrap64 ((Int.tmod (wrap64 (rd l2 0)) 128) + 1)) 2 t187 _ ?side1 ?side2 A14.out).mono ?_); (case side1 => repeat (first | exact (Kd.C_below HR2.out HB.out) | (with_reducible refine Kd.C_alloc ?_ _) | (with_reducible refine Kd.C_drewN ?_ _) | (with_reducible refine Kd.C_drew ?_))); (case side2 => exact HC2.out); rintro e w' ⟨rfl, ⟨nd, rfl⟩⟩; (try first | exact ⟨rfl, _, World.drewN_drewN _ _ _⟩ | exact ⟨rfl, _, Eq.trans (World.drewN_drewN _ _ _) (congrArg (World.drewN _) (Nat.add_assoc _ _ _))⟩))))
                  go_ret3
                  exact ⟨_, by first | rfl | (simp [errW_none, errW_some] <;> rfl) | (simp [*, errW_none, errW_some] <;> rfl), by (with_reducible repeat (first | apply Kd.R_alloc | apply Kd.R_drewN | apply Kd.R_drew)); exact HO185.out, by repeat (first | (with_reducible first | exact HB.out | apply below_alloc | apply pw_below_drewN | apply below_drew1) | exact HB.out)⟩
                · rw [if_neg c15] at H
                  have c15b0 : (t186 == t187) = false := beq_eq_false_iff_ne.mpr c15
                  have c15b1 : (t186 != t187) = true := bne_iff_ne.mpr c15
                  simp only [Option.some.injEq, Prod.mk.injEq] at H
                  obtain ⟨rfl, rfl, rfl⟩ := H
                  go_enter Try.func26, Try.ntmps26
                  go_wp2_with (first | (go_at_call 42; (refine (impl_sealOk.calls a0 a1 _ _ ([] : List Int) true _ ?side1 ?side2 A4.out).mono ?_); (case side1 => exact Kd.C_nil _ _); (case side2 => exact Nat.le_refl _); rintro e w' ⟨rfl, ⟨nd, rfl⟩⟩; (try first | exact ⟨rfl, _, World.drewN_drewN _ _ _⟩ | exact ⟨rfl, _, Eq.trans (World.drewN_drewN _ _ _) (congrArg (World.drewN _) (Nat.add_assoc _ _ _))⟩); have p180 : 0 ≤ (0 : Int) := (by omega); have q180 : 0 < (l2.length : Int) := of_decide_eq_true (by first | (with_reducible assumption) | assumption); obtain ⟨ad180, e180, hx180_0⟩ := Kd.at_int HR2.out 0 p180 q180; cases e180; have qi180 : (0 < l2.length) = True := eq_true (by omega); (try rw [show ((0 : Int)).toNat = 0 from rfl] at hx180_0); (try rw [Addr.add_zero'] at hx180_0); replace p180 := eq_true p180; replace q180 := eq_true q180; have p181 : 0 ≤ (0 : Int) := (by omega); have q181 : 0 < (l2.length : Int) := of_decide_eq_true (by first | (with_reducible assumption) | assumption); obtain ⟨ad181, e181, hx181_0⟩ := Kd.at_int HR2.out 0 p181 q181; obtain rfl : ad180 = ad181 := (by injection e181); have qi181 : (0 < l2.length) = True := eq_true (by omega); (try rw [show ((0 : Int)).toNat = 0 from rfl] at hx181_0); (try rw [Addr.add_zero'] at hx181_0); replace p181 := eq_true p181; replace q181 := eq_true q181; obtain ⟨i020, hi020, _, hsz20, _⟩ := info_parts info5; obtain ⟨A20, hcut20, hA20, hC20⟩ := print_mid_of (P := Try.prog) (Value.int .u8) 0 22 5 .i64 .i64 Try.underlying22 hi020 hsz20 (some ad180) c2 l2 1 (wrap64 ((Int.tmod (wrap64 (rd l2 0)) 128) + 1)) (by omega) (by first | omega | exact of_decide_eq_true (by first | (with_reducible assumption) | assumption)) (of_decide_eq_true (by first | (with_reducible assumption) | assumption)) HC2.out; have HR182 := Aside0.mk (Kd.C_of_reads (h1 := fun _ => rfl) (hA20 _ (Kd.reads_of_C HR2.out))); have HC182 := Aside0.mk hC20; clear hA20 hC20 hi020 hsz20; obtain ⟨xs_, hxs_⟩ : ∃ x_ : List Int, x_ = ((l2.take ((wrap64 ((Int.tmod (wrap64 (rd l2 0)) 128) + 1)) : Int).toNat).drop (1 : Int).toNat) := ⟨_, rfl⟩; have hxt_ : xs_ = ((l2.take ((wrap64 ((Int.tmod (wrap64 (rd l2 0)) 128) + 1)) : Int).toNat).drop 1) := hxs_; rw [← hxs_] at hcut20 HR182 HC182; rw [← hxt_] at A12; clear hxs_ hxt_) | (go_at_call 54; (with_reducible refine (impl_clone_byte.calls _ _ xs_ t183 _ ?side1 ?side2 A12.out).mono ?_); (case side1 => repeat (first | exact HR182.out | (with_reducible refine Kd.C_alloc ?_ _) | (with_reducible refine Kd.C_drewN ?_ _) | (with_reducible refine Kd.C_drew ?_))); (case side2 => exact HC182.out); rintro e w21 ⟨v184, rfl, ho0, hb⟩; have n0_ := Aside0.mk (Kd.R_lower ho0 (below_size (by repeat (first | (with_reducible first | exact HB.out | apply below_alloc | apply pw_below_drewN | apply below_drew1) | exact HB.out)))); have n1_ := Aside0.mk (below_step (by repeat (first | (with_reducible first | exact HB.out | apply below_alloc | apply pw_below_drewN | apply below_drew1) | exact HB.out)) hb); clear HB; have HO185 := n0_; have HB := n1_; clear n0_ n1_; (try clear hb); (try clear hb2); (try clear hk); (try clear hi); (try clear ho0); obtain ⟨Ao22, co22, eo22⟩ := Kd.R_slice HO185.out; subst eo22) | (go_at_call 17; (with_reducible refine (impl_SealOf.calls k a0 a1 _ _ t183 (decide ((rd l2 0) ≥ 128)) t186 _ ?side1 ?side2 A13.out).mono ?_); (case side1 => repeat (first | exact (Kd.R_reads' HO185.out).2.2 | (with_reducible refine Kd.C_alloc ?_ _) | (with_reducible refine Kd.C_drewN ?_ _) | (with_reducible refine Kd.C_drew ?_))); (case side2 => exact (Kd.R_reads' HO185.out).2.1); rintro e w23 ⟨rfl, hb⟩; have n0_ := Aside0.mk (Kd.R_below (by (with_reducible repeat (first | apply Kd.R_alloc | apply Kd.R_drewN | apply Kd.R_drew)); exact HO185.out) hb); have n1_ := Aside0.mk (below_step (by repeat (first | (with_reducible first | exact HB.out | apply below_alloc | apply pw_below_drewN | apply below_drew1) | exact HB.out)) hb); clear HO185; clear HB; have HO185 := n0_; have HB := n1_; clear n0_ n1_; (try clear hb); (try clear hb2); (try clear hk); (try clear hi)) | (go_at_call 55; (with_reducible refine (impl_NumberAt.calls k _ _ l2 (wrap64 ((Int.tmod (wrap64 (rd l2 0)) 128) + 1)) 2 t187 _ ?side1 ?side2 A14.out).mono ?_); (case side1 => repeat (first | exact (Kd.C_below HR2.out HB.out) | (with_reducible refine Kd.C_alloc ?_ _) | (with_reducible refine Kd.C_drewN ?_ _) | (with_reducible refine Kd.C_drew ?_))); (case side2 => exact HC2.out); rintro e w' ⟨rfl, ⟨nd, rfl⟩⟩; (try first | exact ⟨rfl, _, World.drewN_drewN _ _ _⟩ | exact ⟨rfl, _, Eq.trans (World.drewN_drewN _ _ _) (congrArg (World.drewN _) (Nat.add_assoc _ _ _))⟩)))
                  repeat (go_quiet (first | (go_at_call 42; (refine (impl_sealOk.calls a0 a1 _ _ ([] : List Int) true _ ?side1 ?side2 A4.out).mono ?_); (case side1 => exact Kd.C_nil _ _); (case side2 => exact Nat.le_refl _); rintro e w' ⟨rfl, ⟨nd, rfl⟩⟩; (try first | exact ⟨rfl, _, World.drewN_drewN _ _ _⟩ | exact ⟨rfl, _, Eq.trans (World.drewN_drewN _ _ _) (congrArg (World.drewN _) (Nat.add_assoc _ _ _))⟩); have p180 : 0 ≤ (0 : Int) := (by omega); have q180 : 0 < (l2.length : Int) := of_decide_eq_true (by first | (with_reducible assumption) | assumption); obtain ⟨ad180, e180, hx180_0⟩ := Kd.at_int HR2.out 0 p180 q180; cases e180; have qi180 : (0 < l2.length) = True := eq_true (by omega); (try rw [show ((0 : Int)).toNat = 0 from rfl] at hx180_0); (try rw [Addr.add_zero'] at hx180_0); replace p180 := eq_true p180; replace q180 := eq_true q180; have p181 : 0 ≤ (0 : Int) := (by omega); have q181 : 0 < (l2.length : Int) := of_decide_eq_true (by first | (with_reducible assumption) | assumption); obtain ⟨ad181, e181, hx181_0⟩ := Kd.at_int HR2.out 0 p181 q181; obtain rfl : ad180 = ad181 := (by injection e181); have qi181 : (0 < l2.length) = True := eq_true (by omega); (try rw [show ((0 : Int)).toNat = 0 from rfl] at hx181_0); (try rw [Addr.add_zero'] at hx181_0); replace p181 := eq_true p181; replace q181 := eq_true q181; obtain ⟨i020, hi020, _, hsz20, _⟩ := info_parts info5; obtain ⟨A20, hcut20, hA20, hC20⟩ := print_mid_of (P := Try.prog) (Value.int .u8) 0 22 5 .i64 .i64 Try.underlying22 hi020 hsz20 (some ad180) c2 l2 1 (wrap64 ((Int.tmod (wrap64 (rd l2 0)) 128) + 1)) (by omega) (by first | omega | exact of_decide_eq_true (by first | (with_reducible assumption) | assumption)) (of_decide_eq_true (by first | (with_reducible assumption) | assumption)) HC2.out; have HR182 := Aside0.mk (Kd.C_of_reads (h1 := fun _ => rfl) (hA20 _ (Kd.reads_of_C HR2.out))); have HC182 := Aside0.mk hC20; clear hA20 hC20 hi020 hsz20; obtain ⟨xs_, hxs_⟩ : ∃ x_ : List Int, x_ = ((l2.take ((wrap64 ((Int.tmod (wrap64 (rd l2 0)) 128) + 1)) : Int).toNat).drop (1 : Int).toNat) := ⟨_, rfl⟩; have hxt_ : xs_ = ((l2.take ((wrap64 ((Int.tmod (wrap64 (rd l2 0)) 128) + 1)) : Int).toNat).drop 1) := hxs_; rw [← hxs_] at hcut20 HR182 HC182; rw [← hxt_] at A12; clear hxs_ hxt_) | (go_at_call 54; (with_reducible refine (impl_clone_byte.calls _ _ xs_ t183 _ ?side1 ?side2 A12.out).mono ?_); (case side1 => repeat (first | exact HR182.out | (with_reducible refine Kd.C_alloc ?_ _) | (with_reducible refine Kd.C_drewN ?_ _) | (with_reducible refine Kd.C_drew ?_))); (case side2 => exact HC182.out); rintro e w21 ⟨v184, rfl, ho0, hb⟩; have n0_ := Aside0.mk (Kd.R_lower ho0 (below_size (by repeat (first | (with_reducible first | exact HB.out | apply below_alloc | apply pw_below_drewN | apply below_drew1) | exact HB.out)))); have n1_ := Aside0.mk (below_step (by repeat (first | (with_reducible first | exact HB.out | apply below_alloc | apply pw_below_drewN | apply below_drew1) | exact HB.out)) hb); clear HB; have HO185 := n0_; have HB := n1_; clear n0_ n1_; (try clear hb); (try clear hb2); (try clear hk); (try clear hi); (try clear ho0); obtain ⟨Ao22, co22, eo22⟩ := Kd.R_slice HO185.out; subst eo22) | (go_at_call 17; (with_reducible refine (impl_SealOf.calls k a0 a1 _ _ t183 (decide ((rd l2 0) ≥ 128)) t186 _ ?side1 ?side2 A13.out).mono ?_); (case side1 => repeat (first | exact (Kd.R_reads' HO185.out).2.2 | (with_reducible refine Kd.C_alloc ?_ _) | (with_reducible refine Kd.C_drewN ?_ _) | (with_reducible refine Kd.C_drew ?_))); (case side2 => exact (Kd.R_reads' HO185.out).2.1); rintro e w23 ⟨rfl, hb⟩; have n0_ := Aside0.mk (Kd.R_below (by (with_reducible repeat (first | apply Kd.R_alloc | apply Kd.R_drewN | apply Kd.R_drew)); exact HO185.out) hb); have n1_ := Aside0.mk (below_step (by repeat (first | (with_reducible first | exact HB.out | apply below_alloc | apply pw_below_drewN | apply below_drew1) | exact HB.out)) hb); clear HO185; clear HB; have HO185 := n0_; have HB := n1_; clear n0_ n1_; (try clear hb); (try clear hb2); (try clear hk); (try clear hi)) | (go_at_call 55; (with_reducible refine (impl_NumberAt.calls k _ _ l2 (wrap64 ((Int.tmod (wrap64 (rd l2 0)) 128) + 1)) 2 t187 _ ?side1 ?side2 A14.out).mono ?_); (case side1 => repeat (first | exact (Kd.C_below HR2.out HB.out) | (with_reducible refine Kd.C_alloc ?_ _) | (with_reducible refine Kd.C_drewN ?_ _) | (with_reducible refine Kd.C_drew ?_))); (case side2 => exact HC2.out); rintro e w' ⟨rfl, ⟨nd, rfl⟩⟩; (try first | exact ⟨rfl, _, World.drewN_drewN _ _ _⟩ | exact ⟨rfl, _, Eq.trans (World.drewN_drewN _ _ _) (congrArg (World.drewN _) (Nat.add_assoc _ _ _))⟩))); try go_wp2_with (first | (go_at_call 42; (refine (impl_sealOk.calls a0 a1 _ _ ([] : List Int) true _ ?side1 ?side2 A4.out).mono ?_); (case side1 => exact Kd.C_nil _ _); (case side2 => exact Nat.le_refl _); rintro e w' ⟨rfl, ⟨nd, rfl⟩⟩; (try first | exact ⟨rfl, _, World.drewN_drewN _ _ _⟩ | exact ⟨rfl, _, Eq.trans (World.drewN_drewN _ _ _) (congrArg (World.drewN _) (Nat.add_assoc _ _ _))⟩); have p180 : 0 ≤ (0 : Int) := (by omega); have q180 : 0 < (l2.length : Int) := of_decide_eq_true (by first | (with_reducible assumption) | assumption); obtain ⟨ad180, e180, hx180_0⟩ := Kd.at_int HR2.out 0 p180 q180; cases e180; have qi180 : (0 < l2.length) = True := eq_true (by omega); (try rw [show ((0 : Int)).toNat = 0 from rfl] at hx180_0); (try rw [Addr.add_zero'] at hx180_0); replace p180 := eq_true p180; replace q180 := eq_true q180; have p181 : 0 ≤ (0 : Int) := (by omega); have q181 : 0 < (l2.length : Int) := of_decide_eq_true (by first | (with_reducible assumption) | assumption); obtain ⟨ad181, e181, hx181_0⟩ := Kd.at_int HR2.out 0 p181 q181; obtain rfl : ad180 = ad181 := (by injection e181); have qi181 : (0 < l2.length) = True := eq_true (by omega); (try rw [show ((0 : Int)).toNat = 0 from rfl] at hx181_0); (try rw [Addr.add_zero'] at hx181_0); replace p181 := eq_true p181; replace q181 := eq_true q181; obtain ⟨i020, hi020, _, hsz20, _⟩ := info_parts info5; obtain ⟨A20, hcut20, hA20, hC20⟩ := print_mid_of (P := Try.prog) (Value.int .u8) 0 22 5 .i64 .i64 Try.underlying22 hi020 hsz20 (some ad180) c2 l2 1 (wrap64 ((Int.tmod (wrap64 (rd l2 0)) 128) + 1)) (by omega) (by first | omega | exact of_decide_eq_true (by first | (with_reducible assumption) | assumption)) (of_decide_eq_true (by first | (with_reducible assumption) | assumption)) HC2.out; have HR182 := Aside0.mk (Kd.C_of_reads (h1 := fun _ => rfl) (hA20 _ (Kd.reads_of_C HR2.out))); have HC182 := Aside0.mk hC20; clear hA20 hC20 hi020 hsz20; obtain ⟨xs_, hxs_⟩ : ∃ x_ : List Int, x_ = ((l2.take ((wrap64 ((Int.tmod (wrap64 (rd l2 0)) 128) + 1)) : Int).toNat).drop (1 : Int).toNat) := ⟨_, rfl⟩; have hxt_ : xs_ = ((l2.take ((wrap64 ((Int.tmod (wrap64 (rd l2 0)) 128) + 1)) : Int).toNat).drop 1) := hxs_; rw [← hxs_] at hcut20 HR182 HC182; rw [← hxt_] at A12; clear hxs_ hxt_) | (go_at_call 54; (with_reducible refine (impl_clone_byte.calls _ _ xs_ t183 _ ?side1 ?side2 A12.out).mono ?_); (case side1 => repeat (first | exact HR182.out | (with_reducible refine Kd.C_alloc ?_ _) | (with_reducible refine Kd.C_drewN ?_ _) | (with_reducible refine Kd.C_drew ?_))); (case side2 => exact HC182.out); rintro e w21 ⟨v184, rfl, ho0, hb⟩; have n0_ := Aside0.mk (Kd.R_lower ho0 (below_size (by repeat (first | (with_reducible first | exact HB.out | apply below_alloc | apply pw_below_drewN | apply below_drew1) | exact HB.out)))); have n1_ := Aside0.mk (below_step (by repeat (first | (with_reducible first | exact HB.out | apply below_alloc | apply pw_below_drewN | apply below_drew1) | exact HB.out)) hb); clear HB; have HO185 := n0_; have HB := n1_; clear n0_ n1_; (try clear hb); (try clear hb2); (try clear hk); (try clear hi); (try clear ho0); obtain ⟨Ao22, co22, eo22⟩ := Kd.R_slice HO185.out; subst eo22) | (go_at_call 17; (with_reducible refine (impl_SealOf.calls k a0 a1 _ _ t183 (decide ((rd l2 0) ≥ 128)) t186 _ ?side1 ?side2 A13.out).mono ?_); (case side1 => repeat (first | exact (Kd.R_reads' HO185.out).2.2 | (with_reducible refine Kd.C_alloc ?_ _) | (with_reducible refine Kd.C_drewN ?_ _) | (with_reducible refine Kd.C_drew ?_))); (case side2 => exact (Kd.R_reads' HO185.out).2.1); rintro e w23 ⟨rfl, hb⟩; have n0_ := Aside0.mk (Kd.R_below (by (with_reducible repeat (first | apply Kd.R_alloc | apply Kd.R_drewN | apply Kd.R_drew)); exact HO185.out) hb); have n1_ := Aside0.mk (below_step (by repeat (first | (with_reducible first | exact HB.out | apply below_alloc | apply pw_below_drewN | apply below_drew1) | exact HB.out)) hb); clear HO185; clear HB; have HO185 := n0_; have HB := n1_; clear n0_ n1_; (try clear hb); (try clear hb2); (try clear hk); (try clear hi)) | (go_at_call 55; (with_reducible refine (impl_NumberAt.calls k _ _ l2 (wrap64 ((Int.tmod (wrap64 (rd l2 0)) 128) + 1)) 2 t187 _ ?side1 ?side2 A14.out).mono ?_); (case side1 => repeat (first | exact (Kd.C_below HR2.out HB.out) | (with_reducible refine Kd.C_alloc ?_ _) | (with_reducible refine Kd.C_drewN ?_ _) | (with_reducible refine Kd.C_drew ?_))); (case side2 => exact HC2.out); rintro e w' ⟨rfl, ⟨nd, rfl⟩⟩; (try first | exact ⟨rfl, _, World.drewN_drewN _ _ _⟩ | exact ⟨rfl, _, Eq.trans (World.drewN_drewN _ _ _) (congrArg (World.drewN _) (Nat.add_assoc _ _ _))⟩))))
                  go_ret3
                  exact ⟨_, by first | rfl | (simp [errW_none, errW_some] <;> rfl) | (simp [*, errW_none, errW_some] <;> rfl), by first | exact Kd.R_nil _ _ _ _ _ | exact Kd.N_nil _ _ _ _ _ | exact Kd.V_nil _ _ _ _ _ | exact Kd.Q_nil _ _ _ _ _ | exact Kd.S_nil _ _ _ _ _, by repeat (first | (with_reducible first | exact HB.out | apply below_alloc | apply pw_below_drewN | apply below_drew1) | exact HB.out)⟩
              · rw [if_neg c11] at H
                exact absurd H (by simp)
            · rw [if_neg c10] at H
              exact absurd H (by simp)
      · rw [if_neg c7] at H
        exact absurd H (by simp)
  · replace c5 := Bool.eq_false_iff.mpr c5
    subst c5
    have H1 : (some (([] : List Int), false, (-1))) = some (r1, r2, r3) := by rw [if_neg (show ¬ (false = true) by decide)] at H; exact H
    clear H
    have H := H1
    clear H1
    simp only [Option.some.injEq, Prod.mk.injEq] at H
    obtain ⟨rfl, rfl, rfl⟩ := H
    go_enter Try.func26, Try.ntmps26
    go_wp2_with (first | (go_at_call 42; (refine (impl_sealOk.calls a0 a1 _ _ ([] : List Int) false _ ?side1 ?side2 A4.out).mono ?_); (case side1 => exact Kd.C_nil _ _); (case side2 => exact Nat.le_refl _); rintro e w' ⟨rfl, ⟨nd, rfl⟩⟩; (try first | exact ⟨rfl, _, World.drewN_drewN _ _ _⟩ | exact ⟨rfl, _, Eq.trans (World.drewN_drewN _ _ _) (congrArg (World.drewN _) (Nat.add_assoc _ _ _))⟩)))
    repeat (go_quiet (first | (go_at_call 42; (refine (impl_sealOk.calls a0 a1 _ _ ([] : List Int) false _ ?side1 ?side2 A4.out).mono ?_); (case side1 => exact Kd.C_nil _ _); (case side2 => exact Nat.le_refl _); rintro e w' ⟨rfl, ⟨nd, rfl⟩⟩; (try first | exact ⟨rfl, _, World.drewN_drewN _ _ _⟩ | exact ⟨rfl, _, Eq.trans (World.drewN_drewN _ _ _) (congrArg (World.drewN _) (Nat.add_assoc _ _ _))⟩))); try go_wp2_with (first | (go_at_call 42; (refine (impl_sealOk.calls a0 a1 _ _ ([] : List Int) false _ ?side1 ?side2 A4.out).mono ?_); (case side1 => exact Kd.C_nil _ _); (case side2 => exact Nat.le_refl _); rintro e w' ⟨rfl, ⟨nd, rfl⟩⟩; (try first | exact ⟨rfl, _, World.drewN_drewN _ _ _⟩ | exact ⟨rfl, _, Eq.trans (World.drewN_drewN _ _ _) (congrArg (World.drewN _) (Nat.add_assoc _ _ _))⟩))))
    go_ret3
    exact ⟨_, by first | rfl | (simp [errW_none, errW_some] <;> rfl) | (simp [*, errW_none, errW_some] <;> rfl), by first | exact Kd.R_nil _ _ _ _ _ | exact Kd.N_nil _ _ _ _ _ | exact Kd.V_nil _ _ _ _ _ | exact Kd.Q_nil _ _ _ _ _ | exact Kd.S_nil _ _ _ _ _, by repeat (first | (with_reducible first | exact HB.out | apply below_alloc | apply pw_below_drewN | apply below_drew1) | exact HB.out)⟩

end Go.Proofs.Ytgabediginlabaa.GFnExactOpened
