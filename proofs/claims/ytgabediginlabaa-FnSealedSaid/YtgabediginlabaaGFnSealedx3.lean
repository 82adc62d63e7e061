/- What the Go functions that FnSealed reaches come to, walked step by step; there is no condition beyond those each statement names. -/
import Derived.Test.YtgabediginlabaaGFnSealedx0
import Derived.Test.YtgabediginlabaaGFnSealedx1
import Derived.Test.YtgabediginlabaaGFnSealedx2
namespace Go.Proofs.Ytgabediginlabaa.GFnSealed
open Go.RowKit Go.Proofs.YtgabediginlabaaU.PrintWords Go.Proofs.YtgabediginlabaaU.PrintLast Go.Proofs.YtgabediginlabaaU.PrintMore
attribute [local go_sem] max2_int min2_int max_two min_two max_three min_three max_four min_four   -- for this text's walks alone
set_option linter.unusedVariables false
set_option linter.unusedSimpArgs false

/-! ### impl_RecordBytes: function 22 -/
def impl_RecordBytes.f (k : Nat) (a0 : Int) (a1 : Int) (l2 : List Int) (a3 : Bool) : Option (List Int) := (impl_SealOf.f k a0 a1 l2 a3).bind fun t198 => (if t198 < 0 then (some ([] : List Int)) else ((impl_bit.f a3 128).bind fun t199 => ((some (([(wrap64 ((l2.length : Int) + t199)) % 256] : List Int) : List Int)).bind fun y200 => ((impl_bytesOf.f k t198 2).bind fun t203 => (if y200.length + l2.length < 140737488355328 then ((some (y200 ++ l2 : List Int)).bind fun y206 => (if y206.length + t203.length < 140737488355328 then (some (y206 ++ t203)) else (none))) else (none))))))
theorem impl_RecordBytes.mono : ∀ a0 a1 a2 a3 k, LeO (impl_RecordBytes.f k a0 a1 a2 a3) (impl_RecordBytes.f (k + 1) a0 a1 a2 a3) := by
  intro a0 a1 a2 a3 k
  unfold impl_RecordBytes.f
  repeat' first
      | (with_reducible exact impl_SealOf.mono _ _ _ _ _)
      | (with_reducible exact impl_bytesOf.mono _ _ _)
      | (with_reducible exact LeO.refl _)
      | (with_reducible exact LeO.none _)
      | (with_reducible refine LeO.ite ?_ ?_)
      | (with_reducible refine LeO.bind ?_ (fun _ => ?_))
      | exact impl_SealOf.mono _ _ _ _ _
      | exact impl_bytesOf.mono _ _ _
      | exact LeO.none _
      | refine LeO.ite ?_ ?_
      | refine LeO.bind ?_ (fun _ => ?_)
set_option maxHeartbeats 8000000 in
set_option maxRecDepth 100000 in
theorem impl_RecordBytes.calls (k : Nat) (a0 : Int) (a1 : Int) (A2 : Option Addr) (c2 : Nat) (l2 : List Int) (a3 : Bool) (r : List Int) (w : World) (hr2 : Kd.C (Kd.int .u8) w A2 l2.length l2) (hc2 : l2.length ≤ c2) (h : impl_RecordBytes.f k a0 a1 l2 a3 = some r) :
    Calls Try.prog 22 #[.int .i64 a0, .int .i64 a1, .slice A2 l2.length c2, .bool a3] w fun e w' => ∃ v0_ : Value, e = .returned (v0_) ∧ Kd.R (Kd.int .u8) 5 w' w.heap.size (fun _ => True) v0_ r ∧ Below w.heap.size w w' := by
  have HR2 := Aside0.mk hr2
  have HC2 := Aside0.mk hc2
  clear hr2 hc2
  have HB := Aside0.mk (Below.refl w.heap.size w)
  have H : ((impl_SealOf.f k a0 a1 l2 a3).bind fun t198 => (if t198 < 0 then (some ([] : List Int)) else ((impl_bit.f a3 128).bind fun t199 => ((some (([(wrap64 ((l2.length : Int) + t199)) % 256] : List Int) : List Int)).bind fun y200 => ((impl_bytesOf.f k t198 2).bind fun t203 => (if y200.length + l2.length < 140737488355328 then ((some (y200 ++ l2 : List Int)).bind fun y206 => (if y206.length + t203.length < 140737488355328 then (some (y206 ++ t203)) else (none))) else (none))))))) = some r := h
  clear h
  replace H := Option.bind_eq_some_iff.mp H
  obtain ⟨t198, A50, H⟩ := H
  replace H : (if t198 < 0 then (some ([] : List Int)) else ((impl_bit.f a3 128).bind fun t199 => ((some (([(wrap64 ((l2.length : Int) + t199)) % 256] : List Int) : List Int)).bind fun y200 => ((impl_bytesOf.f k t198 2).bind fun t203 => (if y200.length + l2.length < 140737488355328 then ((some (y200 ++ l2 : List Int)).bind fun y206 => (if y206.length + t203.length < 140737488355328 then (some (y206 ++ t203)) else (none))) else (none)))))) = some r := H
  have A5 := Aside0.mk A50
  clear A50
  by_cases c6 : t198 < 0
  · rw [if_pos c6] at H
    have c6b0 : decide (t198 < 0) = true := decide_eq_true c6
    clear c6
    obtain rfl := Option.some.inj H
    go_enter Try.func22, Try.ntmps22
    go_wp2_with (first | ((with_reducible refine gate_callee (f := 17) rfl ?_); refine goesL_ (some 14) rfl rfl Try.func17 (by kernel_rfl) rfl #[.int .i64 a0, .int .i64 a1, .slice A2 l2.length c2, .bool a3] rfl (by (try simp only [List.map_toArray, List.map_cons, List.map_nil]); first | done | rfl | (simp only [List.length_drop, List.length_take]; rfl)) ?_; (with_reducible refine (impl_SealOf.calls k a0 a1 _ _ l2 a3 t198 _ ?side1 ?side2 A5.out).mono ?_); (case side1 => repeat (first | exact HR2.out | (with_reducible refine Kd.C_alloc ?_ _) | (with_reducible refine Kd.C_drewN ?_ _) | (with_reducible refine Kd.C_drew ?_))); (case side2 => exact HC2.out); rintro e w7 ⟨rfl, hb⟩; refine ⟨_, rfl, ?_⟩; have n0_ := Aside0.mk (below_step (by repeat (first | (with_reducible first | exact HB.out | apply below_alloc | apply pw_below_drewN | apply below_drew1) | exact HB.out)) hb); clear HB; have HB := n0_; clear n0_; (try clear hb); (try clear hb2); (try clear hk); (try clear hi)))
    go_ret
    exact ⟨_, by first | rfl | (simp [errW_none, errW_some] <;> rfl) | (simp [*, errW_none, errW_some] <;> rfl), by first | exact Kd.R_nil _ _ _ _ _ | exact Kd.N_nil _ _ _ _ _ | exact Kd.V_nil _ _ _ _ _ | exact Kd.Q_nil _ _ _ _ _ | exact Kd.S_nil _ _ _ _ _, by repeat (first | (with_reducible first | exact HB.out | apply below_alloc | apply pw_below_drewN | apply below_drew1) | exact HB.out)⟩
  · rw [if_neg c6] at H
    have c6b0 : decide (t198 < 0) = false := decide_eq_false c6
    clear c6
    replace H := Option.bind_eq_some_iff.mp H
    obtain ⟨t199, A80, H⟩ := H
    replace H : ((some (([(wrap64 ((l2.length : Int) + t199)) % 256] : List Int) : List Int)).bind fun y200 => ((impl_bytesOf.f k t198 2).bind fun t203 => (if y200.length + l2.length < 140737488355328 then ((some (y200 ++ l2 : List Int)).bind fun y206 => (if y206.length + t203.length < 140737488355328 then (some (y206 ++ t203)) else (none))) else (none)))) = some r := H
    have A8 := Aside0.mk A80
    clear A80
    obtain ⟨y200, hy200⟩ : ∃ y_ : List Int, y_ = (([(wrap64 ((l2.length : Int) + t199)) % 256] : List Int)) := ⟨_, rfl⟩
    replace H : ((impl_bytesOf.f k t198 2).bind fun t203 => (if y200.length + l2.length < 140737488355328 then ((some (y200 ++ l2 : List Int)).bind fun y206 => (if y206.length + t203.length < 140737488355328 then (some (y206 ++ t203)) else (none))) else (none))) = some r := by first | (rw [hy200]; with_reducible exact H) | (have H2_ := (Option.bind_some _ _).symm.trans H; rw [hy200]; with_reducible exact H2_) | (have H2_ := (Option.bind_some _ _).symm.trans H; with_reducible exact H2_) | with_reducible exact H | (rw [hy200]; exact H) | exact H
    have Ny200 := Aside0.mk hy200
    clear hy200
    replace H := Option.bind_eq_some_iff.mp H
    obtain ⟨t203, A90, H⟩ := H
    replace H : (if y200.length + l2.length < 140737488355328 then ((some (y200 ++ l2 : List Int)).bind fun y206 => (if y206.length + t203.length < 140737488355328 then (some (y206 ++ t203)) else (none))) else (none)) = some r := H
    have A9 := Aside0.mk A90
    clear A90
    by_cases c10 : y200.length + l2.length < 140737488355328
    · rw [if_pos c10] at H
      have LMc10 := Aside0.mk c10
      clear c10
      obtain ⟨y206, hy206⟩ : ∃ y_ : List Int, y_ = (y200 ++ l2) := ⟨_, rfl⟩
      replace H : (if y206.length + t203.length < 140737488355328 then (some (y206 ++ t203)) else (none)) = some r := by first | (rw [hy206]; with_reducible exact H) | (have H2_ := (Option.bind_some _ _).symm.trans H; rw [hy206]; with_reducible exact H2_) | (have H2_ := (Option.bind_some _ _).symm.trans H; with_reducible exact H2_) | with_reducible exact H | (rw [hy206]; exact H) | exact H
      have Ny206 := Aside0.mk hy206
      clear hy206
      by_cases c11 : y206.length + t203.length < 140737488355328
      · rw [if_pos c11] at H
        have LMc11 := Aside0.mk c11
        clear c11
        obtain ⟨y209, hy209⟩ : ∃ y_ : List Int, y_ = (y206 ++ t203) := ⟨_, rfl⟩
        replace H : (some y209) = some r := by first | (rw [hy209]; with_reducible exact H) | (have H2_ := (Option.bind_some _ _).symm.trans H; rw [hy209]; with_reducible exact H2_) | (have H2_ := (Option.bind_some _ _).symm.trans H; with_reducible exact H2_) | with_reducible exact H | (rw [hy209]; exact H) | exact H
        have Ny209 := Aside0.mk hy209
        clear hy209
        obtain rfl := Option.some.inj H
        have Hcc_ := Aside0.mk (show y209 = y200 ++ l2 ++ t203 by rw [Ny209.out, Ny206.out])
        have HLc_ := Aside0.mk (show y200.length + l2.length + t203.length < 140737488355328 by have h_ := LMc11.out; rw [Ny206.out, List.length_append] at h_; exact h_)
        go_enter Try.func22, Try.ntmps22
        go_wp2_with (first | ((with_reducible refine gate_callee (f := 17) rfl ?_); refine goesL_ (some 14) rfl rfl Try.func17 (by kernel_rfl) rfl #[.int .i64 a0, .int .i64 a1, .slice A2 l2.length c2, .bool a3] rfl (by (try simp only [List.map_toArray, List.map_cons, List.map_nil]); first | done | rfl | (simp only [List.length_drop, List.length_take]; rfl)) ?_; (with_reducible refine (impl_SealOf.calls k a0 a1 _ _ l2 a3 t198 _ ?side1 ?side2 A5.out).mono ?_); (case side1 => repeat (first | exact HR2.out | (with_reducible refine Kd.C_alloc ?_ _) | (with_reducible refine Kd.C_drewN ?_ _) | (with_reducible refine Kd.C_drew ?_))); (case side2 => exact HC2.out); rintro e w12 ⟨rfl, hb⟩; refine ⟨_, rfl, ?_⟩; have n0_ := Aside0.mk (below_step (by repeat (first | (with_reducible first | exact HB.out | apply below_alloc | apply pw_below_drewN | apply below_drew1) | exact HB.out)) hb); clear HB; have HB := n0_; clear n0_; (try clear hb); (try clear hb2); (try clear hk); (try clear hi)) | ((with_reducible refine gate_callee (f := 44) rfl ?_); refine goesL_ (some 20) rfl rfl Try.func44 (by kernel_rfl) rfl #[.bool a3, .int .i64 128] rfl (by (try simp only [List.map_toArray, List.map_cons, List.map_nil]); first | done | rfl | (simp only [List.length_drop, List.length_take]; rfl)) ?_; (with_reducible refine (impl_bit.calls a3 128 t199 _ A8.out).mono ?_); rintro e w' ⟨rfl, ⟨nd, rfl⟩⟩; refine ⟨_, rfl, ?_⟩) | ((with_reducible refine gate_dst (N := 23) rfl ?_); refine Kd.R_lit (Kd.int .u8) _ 5 ?hg (N := 23) ?hd (xs := ([(wrap64 ((l2.length : Int) + t199)) % 256] : List Int)) (inner := [.int .u8 ((wrap64 ((l2.length : Int) + t199)) % 256)]) (ok := fun _ => True) (okp := fun _ => True) ?hr ?hp (fun _ hk => hk) trivial (Below.refl _ _) (Nat.le_refl _) (by simp) ?_; (case hd => rfl); (case hg => rfl); (case hr => first | (go_simp; done) | (go_simp; rfl)); (case hp => exact (Reps.one (show Kd.M (Kd.int .u8) _ _ _ ((wrap64 ((l2.length : Int) + t199)) % 256) [.int .u8 ((wrap64 ((l2.length : Int) + t199)) % 256)] from rfl) (Reps.none _ _))); intro v201 w13 ho14 hb hg_ hnew_; clear hg_ hnew_; (first | rw [← Ny200.out] at ho14 | (simp only [Int.reduceToNat] at ho14; rw [← Ny200.out] at ho14)); have n0_ := Aside0.mk (Kd.R_lower ho14 (below_size (by repeat (first | (with_reducible first | exact HB.out | apply below_alloc | apply pw_below_drewN | apply below_drew1) | exact HB.out)))); have n1_ := Aside0.mk (below_step (by repeat (first | (with_reducible first | exact HB.out | apply below_alloc | apply pw_below_drewN | apply below_drew1) | exact HB.out)) hb); clear HB; have HO202 := n0_; have HB := n1_; clear n0_ n1_; clear hb ho14; obtain ⟨Ax_, cx_, ex_⟩ := Kd.R_slice HO202.out; subst ex_) | ((with_reducible refine gate_callee (f := 52) rfl ?_); refine goesL_ (some 26) rfl rfl Try.func52 (by kernel_rfl) rfl #[.int .i64 t198, .int .i64 2] rfl (by (try simp only [List.map_toArray, List.map_cons, List.map_nil]); first | done | rfl | (simp only [List.length_drop, List.length_take]; rfl)) ?_; (with_reducible refine (impl_bytesOf.calls k t198 2 t203 _ A9.out).mono ?_); rintro e w15 ⟨v204, rfl, ho0, hb⟩; refine ⟨_, rfl, ?_⟩; have n0_ := Aside0.mk (Kd.R_elder' (by (with_reducible repeat (first | apply Kd.R_alloc | apply Kd.R_drewN | apply Kd.R_drew)); exact HO202.out) (Kd.R_base ho0) hb); have n1_ := Aside0.mk (Kd.R_lower (Kd.R_new' ho0 (Kd.R_lt (by (with_reducible repeat (first | apply Kd.R_alloc | apply Kd.R_drewN | apply Kd.R_drew)); exact HO202.out))) (below_size (by repeat (first | (with_reducible first | exact HB.out | apply below_alloc | apply pw_below_drewN | apply below_drew1) | exact HB.out)))); have n2_ := Aside0.mk (below_step (by repeat (first | (with_reducible first | exact HB.out | apply below_alloc | apply pw_below_drewN | apply below_drew1) | exact HB.out)) hb); clear HO202; clear HB; have HO202 := n0_; have HO205 := n1_; have HB := n2_; clear n0_ n1_ n2_; (try clear hb); (try clear hb2); (try clear hk); (try clear hi); (try clear ho0); obtain ⟨Ax_, cx_, ex_⟩ := Kd.R_slice HO205.out; subst ex_) | (go_at_call 51; (refine (slices_Concat_byte_byte.calls3 y200 l2 t203 HLc_.out (Kd.K_of_row HO202.out) ⟨A2, c2, rfl, HC2.out, Kd.C_below HR2.out HB.out⟩ (Kd.K_of_row HO205.out)).mono ?_); rintro e w17 ⟨v_, rfl, ho0, hb⟩; rw [← Hcc_.out] at ho0; have n0_ := Aside0.mk (Kd.R_lower ho0 (below_size (by repeat (first | (with_reducible first | exact HB.out | apply below_alloc | apply pw_below_drewN | apply below_drew1) | exact HB.out)))); have n1_ := Aside0.mk (below_step (by repeat (first | (with_reducible first | exact HB.out | apply below_alloc | apply pw_below_drewN | apply below_drew1) | exact HB.out)) hb); clear HB; have HO211 := n0_; have HB := n1_; clear n0_ n1_; clear hb ho0))
        go_ret
        exact ⟨_, by first | rfl | (simp [errW_none, errW_some] <;> rfl) | (simp [*, errW_none, errW_some] <;> rfl), by (with_reducible repeat (first | apply Kd.R_alloc | apply Kd.R_drewN | apply Kd.R_drew)); exact Kd.R_mono HO211.out (fun _ hk => trivial), by repeat (first | (with_reducible first | exact HB.out | apply below_alloc | apply pw_below_drewN | apply below_drew1) | exact HB.out)⟩
      · rw [if_neg c11] at H
        exact absurd H (by simp)
    · rw [if_neg c10] at H
      exact absurd H (by simp)

/-! ### impl_Sealed: function 28 -/
mutual
def impl_Sealed.j0 : Nat → Int → List Int → Bool → Option (List Int)
  | 0, _, _, _ => none
  | k + 1, x0, x1, x14 => if x14 = true then (some ([] : List Int)) else (impl_Sealed.l0 k x0 x1 ([] : List Int) 0)
def impl_Sealed.l0 : Nat → Int → List Int → List Int → Int → Option (List Int)
  | 0, _, _, _, _ => none
  | k + 1, x0, x1, x5, x6 => if (x1.length : Int) > 10 then (if 10 ≤ (x1.length : Int) then ((impl_RecordBytes.f k x0 x6 (x1.take 10) false).bind fun t218 => (if x5.length + t218.length < 140737488355328 then (impl_Sealed.l0 k x0 (x1.drop 10) (x5 ++ t218) (wrap64 (x6 + 1))) else (none))) else (none)) else ((impl_RecordBytes.f k x0 x6 x1 true).bind fun t229 => (if x5.length + t229.length < 140737488355328 then (some (x5 ++ t229)) else (none)))
end
def impl_Sealed.f (k : Nat) (a0 : Int) (l1 : List Int) : Option (List Int) := (impl_sealOk.f a0 0 ([] : List Int)).bind fun t212 => (if t212 = true then (impl_Sealed.j0 k a0 l1 (decide ((l1.length : Int) > 1000))) else (impl_Sealed.j0 k a0 l1 true))
theorem impl_Sealed.mono_l : ∀ k, (∀ y0 y1 y2, LeO (impl_Sealed.j0 k y0 y1 y2) (impl_Sealed.j0 (k + 1) y0 y1 y2)) ∧ (∀ y0 y1 y2 y3, LeO (impl_Sealed.l0 k y0 y1 y2 y3) (impl_Sealed.l0 (k + 1) y0 y1 y2 y3))
  | 0 => ⟨fun _ _ _ r h => by simp [impl_Sealed.j0] at h, fun _ _ _ _ r h => by simp [impl_Sealed.l0] at h⟩
  | k + 1 => by
    obtain ⟨ih0, ih1⟩ := impl_Sealed.mono_l k
    refine ⟨?_, ?_⟩
    · intro y0 y1 y2
      unfold impl_Sealed.j0
      repeat' first
      | (with_reducible exact ih0 _ _ _)
      | (with_reducible exact ih1 _ _ _ _)
      | (with_reducible exact impl_RecordBytes.mono _ _ _ _ _)
      | (with_reducible exact LeO.refl _)
      | (with_reducible exact LeO.none _)
      | (with_reducible refine LeO.ite ?_ ?_)
      | (with_reducible refine LeO.bind ?_ (fun _ => ?_))
      | exact ih0 _ _ _
      | exact ih1 _ _ _ _
      | exact impl_RecordBytes.mono _ _ _ _ _
      | exact LeO.none _
      | refine LeO.ite ?_ ?_
      | refine LeO.bind ?_ (fun _ => ?_)
    · intro y0 y1 y2 y3
      unfold impl_Sealed.l0
      repeat' first
      | (with_reducible exact ih0 _ _ _)
      | (with_reducible exact ih1 _ _ _ _)
      | (with_reducible exact impl_RecordBytes.mono _ _ _ _ _)
      | (with_reducible exact LeO.refl _)
      | (with_reducible exact LeO.none _)
      | (with_reducible refine LeO.ite ?_ ?_)
      | (with_reducible refine LeO.bind ?_ (fun _ => ?_))
      | exact ih0 _ _ _
      | exact ih1 _ _ _ _
      | exact impl_RecordBytes.mono _ _ _ _ _
      | exact LeO.none _
      | refine LeO.ite ?_ ?_
      | refine LeO.bind ?_ (fun _ => ?_)
theorem impl_Sealed.mono : ∀ a0 a1 k, LeO (impl_Sealed.f k a0 a1) (impl_Sealed.f (k + 1) a0 a1) := by
  intro a0 a1 k
  obtain ⟨ih0, ih1⟩ := impl_Sealed.mono_l k
  unfold impl_Sealed.f
  repeat' first
      | (with_reducible exact ih0 _ _ _)
      | (with_reducible exact ih1 _ _ _ _)
      | (with_reducible exact impl_RecordBytes.mono _ _ _ _ _)
      | (with_reducible exact LeO.refl _)
      | (with_reducible exact LeO.none _)
      | (with_reducible refine LeO.ite ?_ ?_)
      | (with_reducible refine LeO.bind ?_ (fun _ => ?_))
      | exact ih0 _ _ _
      | exact ih1 _ _ _ _
      | exact impl_RecordBytes.mono _ _ _ _ _
      | exact LeO.none _
      | refine LeO.ite ?_ ?_
      | refine LeO.bind ?_ (fun _ => ?_)
set_option maxHeartbeats 8000000 in
set_option maxRecDepth 100000 in
theorem impl_Sealed.calls (k : Nat) (a0 : Int) (P1_ : Nat → Prop) (A1 : Option Addr) (c1 : Nat) (l1 : List Int) (r : List Int) (w : World) (hs1 : Kd.V (Kd.int .u8) 5 w w.heap.size (fun k_ => P1_ k_) (.slice A1 l1.length c1) l1) (h : impl_Sealed.f k a0 l1 = some r) :
    Calls Try.prog 28 #[.int .i64 a0, .slice A1 l1.length c1] w fun e w' => ∃ v0_ : Value, e = .returned (v0_) ∧ Kd.R (Kd.int .u8) 5 w' w.heap.size (fun k_ => (w.heap.size ≤ k_)) v0_ r ∧ Below w.heap.size w w' := by
  have HO1 := Aside0.mk (show Kd.V (Kd.int .u8) 5 w w.heap.size (fun k_ => (P1_ k_ ∨ w.heap.size ≤ k_)) (.slice A1 l1.length c1) l1 from Kd.V_mono hs1 (fun k_ hk => .inl hk))
  have HB := Aside0.mk (Below.refl w.heap.size w)
  have H : ((impl_sealOk.f a0 0 ([] : List Int)).bind fun t212 => (if t212 = true then (impl_Sealed.j0 k a0 l1 (decide ((l1.length : Int) > 1000))) else (impl_Sealed.j0 k a0 l1 true))) = some r := h
  clear h
  have HC3 := Aside0.mk H
  clear H
  go_enter Try.func28, Try.ntmps28
  go_upto_region 1 with (fail)
  go_cut [14] (fun v14 wc => ∃ (kq : Nat) (x14_2 : Bool), v14 = .bool x14_2 ∧ Aside0 (impl_Sealed.j0 kq a0 l1 x14_2 = some r) ∧ Aside0 (kq ≤ k) ∧ Aside0 (Kd.V (Kd.int .u8) 5 wc w.heap.size (fun k_ => (P1_ k_ ∨ w.heap.size ≤ k_)) (.slice A1 l1.length c1) l1) ∧ Aside0 (Below w.heap.size w wc))
  case first =>
    have H := HC3.out
    clear HC3
    replace H := Option.bind_eq_some_iff.mp H
    obtain ⟨t212, A40, H⟩ := H
    replace H : (if t212 = true then (impl_Sealed.j0 k a0 l1 (decide ((l1.length : Int) > 1000))) else (impl_Sealed.j0 k a0 l1 true)) = some r := H
    have A4 := Aside0.mk A40
    clear A40
    by_cases c5 : t212 = true
    · subst c5
      have H1 : (impl_Sealed.j0 k a0 l1 (decide ((l1.length : Int) > 1000))) = some r := by rw [if_pos rfl] at H; exact H
      clear H
      have H := H1
      clear H1
      have H' := Aside0.mk H
      clear H
      go_wp2_with (first | ((with_reducible refine gate_callee (f := 42) rfl ?_); refine goesL_ (some 8) rfl rfl Try.func42 (by kernel_rfl) rfl #[.int .i64 a0, .int .i64 0, .slice none 0 0] rfl (by (try simp only [List.map_toArray, List.map_cons, List.map_nil]); first | done | rfl | (simp only [List.length_drop, List.length_take]; rfl)) ?_; (refine (impl_sealOk.calls a0 0 _ _ ([] : List Int) true _ ?side1 ?side2 A4.out).mono ?_); (case side1 => exact Kd.C_nil _ _); (case side2 => exact Nat.le_refl _); rintro e w' ⟨rfl, ⟨nd, rfl⟩⟩; refine ⟨_, rfl, ?_⟩))
      go_meet
      case rel => exact ⟨_, (decide ((l1.length : Int) > 1000)), (by first | rfl | (simp; done) | (simp [*]; done)), H', ⟨by first | omega | exact Nat.le_refl _⟩, ⟨by (with_reducible repeat (first | apply Kd.V_alloc | apply Kd.V_drewN | apply Kd.V_drew)); exact HO1.out⟩, ⟨by repeat (first | (with_reducible first | exact HB.out | apply below_alloc | apply pw_below_drewN | apply below_drew1) | exact HB.out)⟩⟩
    · replace c5 := Bool.eq_false_iff.mpr c5
      subst c5
      have H1 : (impl_Sealed.j0 k a0 l1 true) = some r := by rw [if_neg (show ¬ (false = true) by decide)] at H; exact H
      clear H
      have H := H1
      clear H1
      have H' := Aside0.mk H
      clear H
      go_wp2_with (first | ((with_reducible refine gate_callee (f := 42) rfl ?_); refine goesL_ (some 8) rfl rfl Try.func42 (by kernel_rfl) rfl #[.int .i64 a0, .int .i64 0, .slice none 0 0] rfl (by (try simp only [List.map_toArray, List.map_cons, List.map_nil]); first | done | rfl | (simp only [List.length_drop, List.length_take]; rfl)) ?_; (refine (impl_sealOk.calls a0 0 _ _ ([] : List Int) false _ ?side1 ?side2 A4.out).mono ?_); (case side1 => exact Kd.C_nil _ _); (case side2 => exact Nat.le_refl _); rintro e w' ⟨rfl, ⟨nd, rfl⟩⟩; refine ⟨_, rfl, ?_⟩))
      go_meet
      case rel => exact ⟨_, (true), (by first | rfl | (simp; done) | (simp [*]; done)), H', ⟨by first | omega | exact Nat.le_refl _⟩, ⟨by (with_reducible repeat (first | apply Kd.V_alloc | apply Kd.V_drewN | apply Kd.V_drew)); exact HO1.out⟩, ⟨by repeat (first | (with_reducible first | exact HB.out | apply below_alloc | apply pw_below_drewN | apply below_drew1) | exact HB.out)⟩⟩
  case rest =>
    clear HC3
    try clear c1
    try clear c2
    try clear p2
    try clear c4
    try clear c5
    obtain ⟨kq, x14_2, rfl, HA, HJ2, HO_1, HB⟩ := hcut
    cases kq with
    | zero => exact absurd HA.out (by simp [impl_Sealed.j0])
    | succ kj2 =>
      have H := HA.out
      clear HA
      simp only [impl_Sealed.j0] at H
      by_cases c6 : x14_2 = true
      · subst c6
        have H1 : (some ([] : List Int)) = some r := by rw [if_pos rfl] at H; exact H
        clear H
        have H := H1
        clear H1
        obtain rfl := Option.some.inj H
        go_wp2
        go_ret
        exact ⟨_, by first | rfl | (simp [errW_none, errW_some] <;> rfl) | (simp [*, errW_none, errW_some] <;> rfl), by first | exact Kd.R_nil _ _ _ _ _ | exact Kd.N_nil _ _ _ _ _ | exact Kd.V_nil _ _ _ _ _ | exact Kd.Q_nil _ _ _ _ _ | exact Kd.S_nil _ _ _ _ _, by repeat (first | (with_reducible first | exact HB.out | apply below_alloc | apply pw_below_drewN | apply below_drew1) | exact HB.out)⟩
      · replace c6 := Bool.eq_false_iff.mpr c6
        subst c6
        have H1 : (impl_Sealed.l0 kj2 a0 l1 ([] : List Int) 0) = some r := by rw [if_neg (show ¬ (false = true) by decide)] at H; exact H
        clear H
        have H := H1
        clear H1
        have H' := Aside0.mk H
        clear H
        go_wp2
        go_loopg [1, 5, 6] kj2 (fun kq v1 v5 v6 w' => ∃ (x1_2 : List Int) (x5_2 : List Int) (x6_2 : Int), v6 = .int .i64 x6_2 ∧ Aside0 (impl_Sealed.l0 kq a0 x1_2 x5_2 x6_2 = some r) ∧ Aside0 (kq ≤ kj2) ∧ Aside0 (Kd.V (Kd.int .u8) 5 w' w.heap.size (fun k_ => (P1_ k_ ∨ w.heap.size ≤ k_) ∧ some k_ ≠ (v5 : Value).ownBlock) v1 x1_2) ∧ Aside0 (Kd.R (Kd.int .u8) 5 w' w.heap.size (fun k_ => (w.heap.size ≤ k_)) v5 x5_2) ∧ Aside0 (Below w.heap.size w w'))
        case atStart => exact ⟨(l1), (([] : List Int)), (0), (by first | rfl | (simp; done) | (simp [*]; done)), H', ⟨Nat.le_refl _⟩, ⟨by (with_reducible repeat (first | apply Kd.V_alloc | apply Kd.V_drewN | apply Kd.V_drew)); exact Kd.V_mono HO_1.out (fun _ hk => ⟨hk, (by simp [Value.ownBlock])⟩)⟩, ⟨by first | exact Kd.R_nil _ _ _ _ _ | exact Kd.N_nil _ _ _ _ _ | exact Kd.V_nil _ _ _ _ _ | exact Kd.Q_nil _ _ _ _ _ | exact Kd.S_nil _ _ _ _ _⟩, ⟨by repeat (first | (with_reducible first | exact HB.out | apply below_alloc | apply pw_below_drewN | apply below_drew1) | exact HB.out)⟩⟩
        case round =>
          clear H'
          try clear c1
          try clear c2
          try clear p2
          try clear c4
          try clear c5
          try clear c6
          try clear p2
          obtain ⟨x1_2, x5_2, x6_2, rfl, HA, HK2, HO_1, HO_5, HB⟩ := hrel
          cases gk with
          | zero => exact absurd HA.out (by simp [impl_Sealed.l0])
          | succ k2 =>
            have H := HA.out
            clear HA
            simp only [impl_Sealed.l0] at H
            by_cases c7 : (x1_2.length : Int) > 10
            · rw [if_pos c7] at H
              have c7b0 : decide (10 < (x1_2.length : Int)) = true := decide_eq_true c7
              have c7b1 : decide (10 < x1_2.length) = true := decide_eq_true (by omega)
              clear c7
              by_cases c8 : 10 ≤ (x1_2.length : Int)
              · rw [if_pos c8] at H
                have c8b0 := eq_true c8
                have c8b1 : decide (10 ≤ (x1_2.length : Int)) = true := decide_eq_true c8
                clear c8
                obtain ⟨y213, hy213⟩ : ∃ y_ : List Int, y_ = (x1_2.take 10) := ⟨_, rfl⟩
                replace H : ((impl_RecordBytes.f k2 a0 x6_2 y213 false).bind fun t218 => (if x5_2.length + t218.length < 140737488355328 then (impl_Sealed.l0 k2 a0 (x1_2.drop 10) (x5_2 ++ t218) (wrap64 (x6_2 + 1))) else (none))) = some r := by first | (rw [hy213]; with_reducible exact H) | (have H2_ := (Option.bind_some _ _).symm.trans H; rw [hy213]; with_reducible exact H2_) | (have H2_ := (Option.bind_some _ _).symm.trans H; with_reducible exact H2_) | with_reducible exact H | (rw [hy213]; exact H) | exact H
                have Ny213 := Aside0.mk hy213
                clear hy213
                replace H := Option.bind_eq_some_iff.mp H
                obtain ⟨t218, A90, H⟩ := H
                replace H : (if x5_2.length + t218.length < 140737488355328 then (impl_Sealed.l0 k2 a0 (x1_2.drop 10) (x5_2 ++ t218) (wrap64 (x6_2 + 1))) else (none)) = some r := H
                have A9 := Aside0.mk A90
                clear A90
                by_cases c10 : x5_2.length + t218.length < 140737488355328
                · rw [if_pos c10] at H
                  have LMc10 := Aside0.mk c10
                  clear c10
                  obtain ⟨y221, hy221⟩ : ∃ y_ : List Int, y_ = (x5_2 ++ t218) := ⟨_, rfl⟩
                  replace H : (impl_Sealed.l0 k2 a0 (x1_2.drop 10) y221 (wrap64 (x6_2 + 1))) = some r := by first | (rw [hy221]; with_reducible exact H) | (have H2_ := (Option.bind_some _ _).symm.trans H; rw [hy221]; with_reducible exact H2_) | (have H2_ := (Option.bind_some _ _).symm.trans H; with_reducible exact H2_) | with_reducible exact H | (rw [hy221]; exact H) | exact H
                  have Ny221 := Aside0.mk hy221
                  clear hy221
                  have c11b0 := eq_true (of_decide_eq_true (by first | (with_reducible assumption) | assumption) : 10 ≤ (x1_2.length : Int))
                  obtain ⟨y224, hy224⟩ : ∃ y_ : List Int, y_ = (x1_2.drop 10) := ⟨_, rfl⟩
                  replace H : (impl_Sealed.l0 k2 a0 y224 y221 (wrap64 (x6_2 + 1))) = some r := by first | (rw [hy224]; with_reducible exact H) | (have H2_ := (Option.bind_some _ _).symm.trans H; rw [hy224]; with_reducible exact H2_) | (have H2_ := (Option.bind_some _ _).symm.trans H; with_reducible exact H2_) | with_reducible exact H | (rw [hy224]; exact H) | exact H
                  have Ny224 := Aside0.mk hy224
                  clear hy224
                  have H' := Aside0.mk H
                  clear H
                  obtain ⟨Ao12, co12, eo12⟩ := Kd.V_slice HO_1.out
                  subst eo12
                  have q13 : (10 : Int) ≤ ((x1_2.length : Int) : Int) := of_decide_eq_true (by first | (with_reducible assumption) | assumption)
                  obtain ⟨i013, hi013, _, hsz13, _⟩ := info_parts info5
                  have hroom13 : x1_2.length ≤ co12 := (Kd.V_reads' HO_1.out).2.1
                  have hC13 : Kd.F (Kd.int .u8) _ _ Ao12 x1_2.length x1_2 := (Kd.V_at (base := w.heap.size) HO_1.out).2.2
                  have hcut13 := cut_to (P := Try.prog) 22 5 .i64 Try.underlying22 hi013 Ao12 x1_2.length co12 10 (by omega) q13 hroom13
                  have hr13 := Kd.F_take (m := 10) hC13 (by omega)
                  have hy13 : y213.length = (10 : Int).toNat := (by rw [Ny213.out, List.length_take]; omega)
                  rw [← Ny213.out] at hr13
                  rw [← hy13] at hcut13
                  have HO217 := Aside0.mk (show Kd.V (Kd.int .u8) 5 _ w.heap.size _ (.slice Ao12 y213.length co12) y213 from Kd.V_mk (by omega) hr13)
                  have HC217 := Aside0.mk (show y213.length ≤ co12 from by omega)
                  clear hr13 hC13 hroom13 hi013 hsz13
                  have KY13 := Aside0.mk hy13
                  clear hy13
                  replace q13 := eq_true q13
                  go_wp2_with (first | ((with_reducible refine gate_callee (f := 22) rfl ?_); refine goesL_ (some 25) rfl rfl Try.func22 (by kernel_rfl) rfl #[.int .i64 a0, .int .i64 x6_2, .slice Ao12 y213.length co12, .bool false] rfl (by (try simp only [List.map_toArray, List.map_cons, List.map_nil]); first | done | rfl | (simp only [List.length_drop, List.length_take]; rfl)) ?_; (with_reducible refine (impl_RecordBytes.calls k2 a0 x6_2 _ _ y213 false t218 _ ?side1 ?side2 A9.out).mono ?_); (case side1 => repeat (first | exact (Kd.V_reads' HO217.out).2.2 | (with_reducible refine Kd.C_alloc ?_ _) | (with_reducible refine Kd.C_drewN ?_ _) | (with_reducible refine Kd.C_drew ?_))); (case side2 => exact (Kd.V_reads' HO217.out).2.1); rintro e w14 ⟨v219, rfl, ho0, hb⟩; refine ⟨_, rfl, ?_⟩; have n0_ := Aside0.mk (Kd.V_elder' (by (with_reducible repeat (first | apply Kd.V_alloc | apply Kd.V_drewN | apply Kd.V_drew)); exact HO_1.out) (Kd.R_base ho0) hb); have n1_ := Aside0.mk (Kd.R_elder' (by (with_reducible repeat (first | apply Kd.R_alloc | apply Kd.R_drewN | apply Kd.R_drew)); exact HO_5.out) (Kd.R_base ho0) hb); have n2_ := Aside0.mk (Kd.V_elder' (by (with_reducible repeat (first | apply Kd.V_alloc | apply Kd.V_drewN | apply Kd.V_drew)); exact HO217.out) (Kd.R_base ho0) hb); have n3_ := Aside0.mk (Kd.R_lower (Kd.R_new' (Kd.R_newM (M := fun k_ => (w.heap.size ≤ k_)) ho0 (below_size (by repeat (first | (with_reducible first | exact HB.out | apply below_alloc | apply pw_below_drewN | apply below_drew1) | exact HB.out))) (fun k_ h_ => h_)) (Kd.R_lt (by (with_reducible repeat (first | apply Kd.R_alloc | apply Kd.R_drewN | apply Kd.R_drew)); exact HO_5.out))) (below_size (by repeat (first | (with_reducible first | exact HB.out | apply below_alloc | apply pw_below_drewN | apply below_drew1) | exact HB.out)))); have n4_ := Aside0.mk (below_step (by repeat (first | (with_reducible first | exact HB.out | apply below_alloc | apply pw_below_drewN | apply below_drew1) | exact HB.out)) hb); clear HO_1; clear HO_5; clear HO217; clear HB; have HO_1 := n0_; have HO_5 := n1_; have HO217 := n2_; have HO220 := n3_; have HB := n4_; clear n0_ n1_ n2_ n3_ n4_; (try clear hb); (try clear hb2); (try clear hk); (try clear hi); (try clear ho0); obtain ⟨Ao16, co16, eo16⟩ := Kd.R_slice HO220.out; subst eo16) | ((with_reducible refine gate_builtin (b := .append) (xs := #[.tmp 20, .tmp 25]) rfl ?_); at_builtin; refine Kd.R_append_rows (Kd.int .u8) (w0 := w) w.heap.size rfl (.tmp 20) (.tmp 25) 22 5 (.int .u8 0) 1 rfl Try.underlying22 info5 rfl (by decide) (by omega) u5 x5_2 t218 _ _ _ (fun k_ => (w.heap.size ≤ k_) ∧ some k_ ≠ (.slice Ao16 t218.length co16 : Value).ownBlock) (fun _ => False) rfl rfl ?aO ?aR (fun _ _ h => h) (fun _ h => h.elim) ?aF ?aB ?aS ?aL ?_; (case aR => repeat (first | exact (Kd.R_reads' HO220.out).2.2 | (with_reducible refine Kd.C_alloc ?_ _) | (with_reducible refine Kd.C_drewN ?_ _) | (with_reducible refine Kd.C_drew ?_))); (case aB => exact (by repeat (first | (with_reducible first | exact HB.out | apply below_alloc | apply pw_below_drewN | apply below_drew1) | exact HB.out))); (case aF => exact (fun k_ hk => ⟨(Nat.le_trans (below_size (by repeat (first | (with_reducible first | exact HB.out | apply below_alloc | apply pw_below_drewN | apply below_drew1) | exact HB.out))) hk), Kd.fresh' (Kd.R_lt (by (with_reducible repeat (first | apply Kd.R_alloc | apply Kd.R_drewN | apply Kd.R_drew)); exact HO220.out)) k_ hk⟩)); (case aO => exact (by (with_reducible repeat (first | apply Kd.R_alloc | apply Kd.R_drewN | apply Kd.R_drew)); exact HO_5.out)); (case aS => exact (below_size (by repeat (first | (with_reducible first | exact HB.out | apply below_alloc | apply pw_below_drewN | apply below_drew1) | exact HB.out)))); (case aL => have := LMc10.out; omega); intro v222 w15 ho hb hg hat; rw [← Ny221.out] at ho; have n0_ := Aside0.mk (Kd.V_afterv (ok := (fun k_ => (P1_ k_ ∨ w.heap.size ≤ k_) ∧ some k_ ≠ (.slice Ao16 t218.length co16 : Value).ownBlock)) (by (with_reducible repeat (first | apply Kd.V_alloc | apply Kd.V_drewN | apply Kd.V_drew)); exact Kd.V_mono HO_1.out (fun _ hk => ⟨⟨hk.1.1, hk.2⟩, hk.1.2⟩)) hg hat); have n1_ := Aside0.mk (Kd.V_afterv (ok := (fun k_ => (P1_ k_ ∨ w.heap.size ≤ k_) ∧ some k_ ≠ (.slice Ao16 t218.length co16 : Value).ownBlock)) (by (with_reducible repeat (first | apply Kd.V_alloc | apply Kd.V_drewN | apply Kd.V_drew)); exact Kd.V_mono HO217.out (fun _ hk => ⟨⟨hk.1.1, hk.2⟩, hk.1.2⟩)) hg hat); have n2_ := Aside0.mk (Kd.R_after (ok := (fun k_ => (w.heap.size ≤ k_))) (by (with_reducible repeat (first | apply Kd.R_alloc | apply Kd.R_drewN | apply Kd.R_drew)); exact Kd.R_mono HO220.out (fun _ hk => ⟨hk.1.1, hk.2⟩)) hg hat); have n3_ := Aside0.mk (hb); have n4_ := Aside0.mk (ho); clear HO_1; clear HO217; clear HO220; clear HB; clear HO_5; have HO_1 := n0_; have HO217 := n1_; have HO220 := n2_; have HB := n3_; have HO223 := n4_; clear n0_ n1_ n2_ n3_ n4_; clear ho hb hg hat; have q17 : (10 : Int) ≤ ((x1_2.length : Int) : Int) := of_decide_eq_true (by first | (with_reducible assumption) | assumption); obtain ⟨i017, hi017, _, hsz17, _⟩ := info_parts info5; have hroom17 : x1_2.length ≤ co12 := (Kd.V_reads' HO_1.out).2.1; have hC17 : Kd.F (Kd.int .u8) _ _ Ao12 x1_2.length x1_2 := (Kd.V_at (base := w.heap.size) HO_1.out).2.2; have hcut17 := cut_from (P := Try.prog) 22 5 .i64 Try.underlying22 hi017 1 hsz17 Ao12 x1_2.length co12 10 (by omega) q17; have hr17 := Kd.F_cut (m := (10 : Int).toNat) (c := co12) hC17 (by omega) hroom17; obtain ⟨A17, hA17⟩ : ∃ A1, A1 = (if co12 = (10 : Int).toNat then Ao12 else (Ao12 : Option Addr).map (·.add ((10 : Int).toNat * 1))) := ⟨_, rfl⟩; obtain ⟨c17, hc17⟩ : ∃ c1, c1 = co12 - (10 : Int).toNat := ⟨_, rfl⟩; have hy17 : y224.length = x1_2.length - (10 : Int).toNat := (by rw [Ny224.out, List.length_drop] <;> omega); rw [show (x1_2).drop (10 : Int).toNat = y224 from Ny224.out.symm] at hr17; replace hr17 : Kd.F (Kd.int .u8) _ _ A17 y224.length y224 := (by rw [hA17]; exact hr17); rw [← hy17, ← hA17, ← hc17] at hcut17; have HO228 := Aside0.mk (show Kd.V (Kd.int .u8) 5 _ w.heap.size _ (.slice A17 y224.length c17) y224 from Kd.V_mk (by rw [hy17, hc17]; exact Nat.sub_le_sub_right hroom17 _) hr17); have HC228 := Aside0.mk (show y224.length ≤ c17 from by rw [hy17, hc17]; exact Nat.sub_le_sub_right hroom17 _); clear hr17 hC17 hroom17 hi017 hsz17 hc17; have KY17 := Aside0.mk hy17; have KA17 := Aside0.mk hA17; clear hy17 hA17; replace q17 := eq_true q17))
                  go_roundg k2
                  case measure => have := HJ2.out; have := HK2.out; omega
                  case rel => exact ⟨(y224), (y221), (wrap64 (x6_2 + 1)), (by first | rfl | (simp; done) | (simp [*]; done)), H', ⟨by have := HJ2.out; have := HK2.out; omega⟩, ⟨by (with_reducible repeat (first | apply Kd.V_alloc | apply Kd.V_drewN | apply Kd.V_drew)); exact Kd.V_mono HO228.out (fun _ hk => ⟨hk.1.1, hk.2⟩)⟩, ⟨by (with_reducible repeat (first | apply Kd.R_alloc | apply Kd.R_drewN | apply Kd.R_drew)); exact Kd.R_mono HO223.out (fun _ hk => hk.1)⟩, ⟨by repeat (first | (with_reducible first | exact HB.out | apply below_alloc | apply pw_below_drewN | apply below_drew1) | exact HB.out)⟩⟩
                · rw [if_neg c10] at H
                  exact absurd H (by simp)
              · rw [if_neg c8] at H
                exact absurd H (by simp)
            · rw [if_neg c7] at H
              have c7b0 : decide (10 < (x1_2.length : Int)) = false := decide_eq_false c7
              have c7b1 : decide (10 < x1_2.length) = false := decide_eq_false (by omega)
              clear c7
              replace H := Option.bind_eq_some_iff.mp H
              obtain ⟨t229, A180, H⟩ := H
              replace H : (if x5_2.length + t229.length < 140737488355328 then (some (x5_2 ++ t229)) else (none)) = some r := H
              have A18 := Aside0.mk A180
              clear A180
              by_cases c19 : x5_2.length + t229.length < 140737488355328
              · rw [if_pos c19] at H
                have LMc19 := Aside0.mk c19
                clear c19
                obtain ⟨y232, hy232⟩ : ∃ y_ : List Int, y_ = (x5_2 ++ t229) := ⟨_, rfl⟩
                replace H : (some y232) = some r := by first | (rw [hy232]; with_reducible exact H) | (have H2_ := (Option.bind_some _ _).symm.trans H; rw [hy232]; with_reducible exact H2_) | (have H2_ := (Option.bind_some _ _).symm.trans H; with_reducible exact H2_) | with_reducible exact H | (rw [hy232]; exact H) | exact H
                have Ny232 := Aside0.mk hy232
                clear hy232
                obtain rfl := Option.some.inj H
                obtain ⟨Ao20, co20, eo20⟩ := Kd.V_slice HO_1.out
                subst eo20
                obtain ⟨Ax_, cx_, ex_⟩ := Kd.R_slice HO_5.out
                subst ex_
                go_wp2_with (first | ((with_reducible refine gate_callee (f := 22) rfl ?_); refine goesL_ (some 33) rfl rfl Try.func22 (by kernel_rfl) rfl #[.int .i64 a0, .int .i64 x6_2, .slice Ao20 x1_2.length co20, .bool true] rfl (by (try simp only [List.map_toArray, List.map_cons, List.map_nil]); first | done | rfl | (simp only [List.length_drop, List.length_take]; rfl)) ?_; (with_reducible refine (impl_RecordBytes.calls k2 a0 x6_2 _ _ x1_2 true t229 _ ?side1 ?side2 A18.out).mono ?_); (case side1 => repeat (first | exact (Kd.V_reads' HO_1.out).2.2 | (with_reducible refine Kd.C_alloc ?_ _) | (with_reducible refine Kd.C_drewN ?_ _) | (with_reducible refine Kd.C_drew ?_))); (case side2 => exact (Kd.V_reads' HO_1.out).2.1); rintro e w21 ⟨v230, rfl, ho0, hb⟩; refine ⟨_, rfl, ?_⟩; have n0_ := Aside0.mk (Kd.V_elder' (by (with_reducible repeat (first | apply Kd.V_alloc | apply Kd.V_drewN | apply Kd.V_drew)); exact HO_1.out) (Kd.R_base ho0) hb); have n1_ := Aside0.mk (Kd.R_elder' (by (with_reducible repeat (first | apply Kd.R_alloc | apply Kd.R_drewN | apply Kd.R_drew)); exact HO_5.out) (Kd.R_base ho0) hb); have n2_ := Aside0.mk (Kd.R_lower (Kd.R_new' (Kd.R_newM (M := fun k_ => (w.heap.size ≤ k_)) ho0 (below_size (by repeat (first | (with_reducible first | exact HB.out | apply below_alloc | apply pw_below_drewN | apply below_drew1) | exact HB.out))) (fun k_ h_ => h_)) (Kd.R_lt (by (with_reducible repeat (first | apply Kd.R_alloc | apply Kd.R_drewN | apply Kd.R_drew)); exact HO_5.out))) (below_size (by repeat (first | (with_reducible first | exact HB.out | apply below_alloc | apply pw_below_drewN | apply below_drew1) | exact HB.out)))); have n3_ := Aside0.mk (below_step (by repeat (first | (with_reducible first | exact HB.out | apply below_alloc | apply pw_below_drewN | apply below_drew1) | exact HB.out)) hb); clear HO_1; clear HO_5; clear HB; have HO_1 := n0_; have HO_5 := n1_; have HO231 := n2_; have HB := n3_; clear n0_ n1_ n2_ n3_; (try clear hb); (try clear hb2); (try clear hk); (try clear hi); (try clear ho0); obtain ⟨Ao23, co23, eo23⟩ := Kd.R_slice HO231.out; subst eo23) | (go_at_call 51; (refine (slices_Concat_byte_byte.calls2 x5_2 t229 LMc19.out (Kd.K_of_row HO_5.out) (Kd.K_of_row HO231.out)).mono ?_); rintro e w22 ⟨v_, rfl, ho0, hb⟩; rw [← Ny232.out] at ho0; have n0_ := Aside0.mk (Kd.R_lower (Kd.R_newM (M := fun k_ => (w.heap.size ≤ k_)) ho0 (below_size (by repeat (first | (with_reducible first | exact HB.out | apply below_alloc | apply pw_below_drewN | apply below_drew1) | exact HB.out))) (fun k_ h_ => h_)) (below_size (by repeat (first | (with_reducible first | exact HB.out | apply below_alloc | apply pw_below_drewN | apply below_drew1) | exact HB.out)))); have n1_ := Aside0.mk (below_step (by repeat (first | (with_reducible first | exact HB.out | apply below_alloc | apply pw_below_drewN | apply below_drew1) | exact HB.out)) hb); clear HB; have HO234 := n0_; have HB := n1_; clear n0_ n1_; clear hb ho0))
                go_ret
                exact ⟨_, by first | rfl | (simp [errW_none, errW_some] <;> rfl) | (simp [*, errW_none, errW_some] <;> rfl), by (with_reducible repeat (first | apply Kd.R_alloc | apply Kd.R_drewN | apply Kd.R_drew)); exact Kd.R_mono HO234.out (fun _ hk => hk.1), by repeat (first | (with_reducible first | exact HB.out | apply below_alloc | apply pw_below_drewN | apply below_drew1) | exact HB.out)⟩
              · rw [if_neg c19] at H
                exact absurd H (by simp)

/-! ### impl_clone_byte: function 54 -/
def impl_clone_byte.f (l0 : List Int) : Option (List Int) := if (l0.length : Int) = 0 then (some ([] : List Int)) else ((some (([] : List Int) : List Int)).bind fun y235 => (if y235.length + l0.length < 140737488355328 then (some (y235 ++ l0)) else (none)))
set_option maxHeartbeats 8000000 in
set_option maxRecDepth 100000 in
theorem impl_clone_byte.calls (A0 : Option Addr) (c0 : Nat) (l0 : List Int) (r : List Int) (w : World) (hr0 : Kd.C (Kd.int .u8) w A0 l0.length l0) (hc0 : l0.length ≤ c0) (h : impl_clone_byte.f l0 = some r) :
    Calls Try.prog 54 #[.slice A0 l0.length c0] w fun e w' => ∃ v0_ : Value, e = .returned (v0_) ∧ Kd.R (Kd.int .u8) 5 w' w.heap.size (fun _ => True) v0_ r ∧ Below w.heap.size w w' := by
  have HR0 := Aside0.mk hr0
  have HC0 := Aside0.mk hc0
  clear hr0 hc0
  have HB := Aside0.mk (Below.refl w.heap.size w)
  have H : (if (l0.length : Int) = 0 then (some ([] : List Int)) else ((some (([] : List Int) : List Int)).bind fun y235 => (if y235.length + l0.length < 140737488355328 then (some (y235 ++ l0)) else (none)))) = some r := h
  clear h
  by_cases c2 : (l0.length : Int) = 0
  · rw [if_pos c2] at H
    have c2b0 : ((l0.length : Int) == 0) = true := beq_iff_eq.mpr c2
    have c2b1 : ((l0.length : Int) != 0) = false := bne_eq_false_iff_eq.mpr c2
    clear c2
    obtain rfl := Option.some.inj H
    go_enter Try.func54, Try.ntmps54
    go_wp2
    go_ret
    exact ⟨_, by first | rfl | (simp [errW_none, errW_some] <;> rfl) | (simp [*, errW_none, errW_some] <;> rfl), by first | exact Kd.R_nil _ _ _ _ _ | exact Kd.N_nil _ _ _ _ _ | exact Kd.V_nil _ _ _ _ _ | exact Kd.Q_nil _ _ _ _ _ | exact Kd.S_nil _ _ _ _ _, by repeat (first | (with_reducible first | exact HB.out | apply below_alloc | apply pw_below_drewN | apply below_drew1) | exact HB.out)⟩
  · rw [if_neg c2] at H
    have c2b0 : ((l0.length : Int) == 0) = false := beq_eq_false_iff_ne.mpr c2
    have c2b1 : ((l0.length : Int) != 0) = true := bne_iff_ne.mpr c2
    have c2b2 : ¬ (l0 = []) := fun h_ => c2 (by rw [h_]; rfl)
    obtain ⟨y235, hy235⟩ : ∃ y_ : List Int, y_ = (([] : List Int)) := ⟨_, rfl⟩
    replace H : (if y235.length + l0.length < 140737488355328 then (some (y235 ++ l0)) else (none)) = some r := by first | (rw [hy235]; with_reducible exact H) | (have H2_ := (Option.bind_some _ _).symm.trans H; rw [hy235]; with_reducible exact H2_) | (have H2_ := (Option.bind_some _ _).symm.trans H; with_reducible exact H2_) | with_reducible exact H | (rw [hy235]; exact H) | exact H
    have Ny235 := Aside0.mk hy235
    clear hy235
    by_cases c3 : y235.length + l0.length < 140737488355328
    · rw [if_pos c3] at H
      have LMc3 := Aside0.mk c3
      clear c3
      obtain ⟨y238, hy238⟩ : ∃ y_ : List Int, y_ = (y235 ++ l0) := ⟨_, rfl⟩
      replace H : (some y238) = some r := by first | (rw [hy238]; with_reducible exact H) | (have H2_ := (Option.bind_some _ _).symm.trans H; rw [hy238]; with_reducible exact H2_) | (have H2_ := (Option.bind_some _ _).symm.trans H; with_reducible exact H2_) | with_reducible exact H | (rw [hy238]; exact H) | exact H
      have Ny238 := Aside0.mk hy238
      clear hy238
      obtain rfl := Option.some.inj H
      have HO237 := Aside0.mk (show Kd.R (Kd.int .u8) 5 w w.heap.size (fun _ => True) (.slice none 0 0) y235 by rw [Ny235.out]; exact Kd.R_nil _ _ _ _ _)
      have HL63_ := Aside0.mk (show y238.length ≤ 9223372036854775807 by rw [Ny238.out, List.length_append]; have := LMc3.out; omega)
      go_enter Try.func54, Try.ntmps54
      go_wp2_with (first | ((with_reducible refine gate_builtin (b := .append) (xs := #[.const (.slice none 0 0), .tmp 6]) rfl ?_); at_builtin; refine Kd.R_append_rows (Kd.int .u8) (w0 := w) w.heap.size rfl (.const (.slice none 0 0)) (.tmp 6) 22 5 (.int .u8 0) 1 rfl Try.underlying22 info5 rfl (by decide) (by omega) (.slice none 0 0) y235 l0 _ _ _ (fun _ => True) (fun _ => False) rfl rfl ?aO ?aR (fun _ _ h => h) (fun _ h => h.elim) ?aF ?aB ?aS ?aL ?_; (case aR => repeat (first | exact (Kd.C_below HR0.out HB.out) | (with_reducible refine Kd.C_alloc ?_ _) | (with_reducible refine Kd.C_drewN ?_ _) | (with_reducible refine Kd.C_drew ?_))); (case aB => exact (by repeat (first | (with_reducible first | exact HB.out | apply below_alloc | apply pw_below_drewN | apply below_drew1) | exact HB.out))); (case aF => exact (fun _ _ => trivial)); (case aO => exact (by (with_reducible repeat (first | apply Kd.R_alloc | apply Kd.R_drewN | apply Kd.R_drew)); exact HO237.out)); (case aS => exact (below_size (by repeat (first | (with_reducible first | exact HB.out | apply below_alloc | apply pw_below_drewN | apply below_drew1) | exact HB.out)))); (case aL => have := LMc3.out; omega); intro v239 w6 ho hb hg hat; rw [← Ny238.out] at ho; have n0_ := Aside0.mk (hb); have n1_ := Aside0.mk (ho); clear HB; clear HO237; have HB := n0_; have HO240 := n1_; clear n0_ n1_; clear ho hb hg hat; obtain ⟨Ax_, cx_, ex_⟩ := Kd.R_slice HO240.out; subst ex_; have HLx_ := Aside0.mk (Kd.R_le HO240.out)) | (go_at_call 43; (with_reducible refine (slices_Clip_43.calls _ _ _ _ HLx_.out HL63_.out).mono ?_); rintro e w' ⟨rfl, hw_⟩; subst hw_))
      go_ret
      exact ⟨_, by first | rfl | (simp [errW_none, errW_some] <;> rfl) | (simp [*, errW_none, errW_some] <;> rfl), by (with_reducible repeat (first | apply Kd.R_alloc | apply Kd.R_drewN | apply Kd.R_drew)); exact Kd.R_clip HO240.out, by repeat (first | (with_reducible first | exact HB.out | apply below_alloc | apply pw_below_drewN | apply below_drew1) | exact HB.out)⟩
    · rw [if_neg c3] at H
      exact absurd H (by simp)

/-! ### impl_NumberAt: function 55 -/
mutual
def impl_NumberAt.j0 : Nat → List Int → Int → Int → Bool → Option (Int)
  | 0, _, _, _, _ => none
  | k + 1, x0, x1, x2, x24 => if x24 = true then (some (-1)) else (if 0 ≤ x1 then (if x1 ≤ (wrap64 (x1 + x2)) then (if (wrap64 (x1 + x2)) ≤ (x0.length : Int) then (impl_NumberAt.l0 k 0 ((x0.take ((wrap64 (x1 + x2)) : Int).toNat).drop (x1 : Int).toNat) (((x0.take ((wrap64 (x1 + x2)) : Int).toNat).drop (x1 : Int).toNat).length : Int) 0) else (none)) else (none)) else (none))
def impl_NumberAt.l0 : Nat → Int → List Int → Int → Int → Option (Int)
  | 0, _, _, _, _ => none
  | k + 1, x7, x30, x31, x32 => if x32 < x31 then (if 0 ≤ x32 then (if x32 < (x30.length : Int) then (impl_NumberAt.l0 k (Go.bits .or .i64 (wrap64 (x7 * 256)) (wrap64 (rd x30 x32))) x30 x31 (wrap64 (x32 + 1))) else (none)) else (none)) else (some x7)
end
def impl_NumberAt.f (k : Nat) (l0 : List Int) (a1 : Int) (a2 : Int) : Option (Int) := (impl_in.f a2 1 4).bind fun t241 => (if t241 = true then (if a1 < 0 then (impl_NumberAt.j0 k l0 a1 a2 true) else (impl_NumberAt.j0 k l0 a1 a2 (decide (a1 > (wrap64 ((l0.length : Int) - a2)))))) else (impl_NumberAt.j0 k l0 a1 a2 true))
theorem impl_NumberAt.mono_l : ∀ k, (∀ y0 y1 y2 y3, LeO (impl_NumberAt.j0 k y0 y1 y2 y3) (impl_NumberAt.j0 (k + 1) y0 y1 y2 y3)) ∧ (∀ y0 y1 y2 y3, LeO (impl_NumberAt.l0 k y0 y1 y2 y3) (impl_NumberAt.l0 (k + 1) y0 y1 y2 y3))
  | 0 => ⟨fun _ _ _ _ r h => by simp [impl_NumberAt.j0] at h, fun _ _ _ _ r h => by simp [impl_NumberAt.l0] at h⟩
  | k + 1 => by
    obtain ⟨ih0, ih1⟩ := impl_NumberAt.mono_l k
    refine ⟨?_, ?_⟩
    · intro y0 y1 y2 y3
      unfold impl_NumberAt.j0
      repeat' first
      | (with_reducible exact ih0 _ _ _ _)
      | (with_reducible exact ih1 _ _ _ _)
      | (with_reducible exact LeO.refl _)
      | (with_reducible exact LeO.none _)
      | (with_reducible refine LeO.ite ?_ ?_)
      | (with_reducible refine LeO.bind ?_ (fun _ => ?_))
      | exact ih0 _ _ _ _
      | exact ih1 _ _ _ _
      | exact LeO.none _
      | refine LeO.ite ?_ ?_
      | refine LeO.bind ?_ (fun _ => ?_)
    · intro y0 y1 y2 y3
      unfold impl_NumberAt.l0
      repeat' first
      | (with_reducible exact ih0 _ _ _ _)
      | (with_reducible exact ih1 _ _ _ _)
      | (with_reducible exact LeO.refl _)
      | (with_reducible exact LeO.none _)
      | (with_reducible refine LeO.ite ?_ ?_)
      | (with_reducible refine LeO.bind ?_ (fun _ => ?_))
      | exact ih0 _ _ _ _
      | exact ih1 _ _ _ _
      | exact LeO.none _
      | refine LeO.ite ?_ ?_
      | refine LeO.bind ?_ (fun _ => ?_)
theorem impl_NumberAt.mono : ∀ a0 a1 a2 k, LeO (impl_NumberAt.f k a0 a1 a2) (impl_NumberAt.f (k + 1) a0 a1 a2) := by
  intro a0 a1 a2 k
  obtain ⟨ih0, ih1⟩ := impl_NumberAt.mono_l k
  unfold impl_NumberAt.f
  repeat' first
      | (with_reducible exact ih0 _ _ _ _)
      | (with_reducible exact ih1 _ _ _ _)
      | (with_reducible exact LeO.refl _)
      | (with_reducible exact LeO.none _)
      | (with_reducible refine LeO.ite ?_ ?_)
      | (with_reducible refine LeO.bind ?_ (fun _ => ?_))
      | exact ih0 _ _ _ _
      | exact ih1 _ _ _ _
      | exact LeO.none _
      | refine LeO.ite ?_ ?_
      | refine LeO.bind ?_ (fun _ => ?_)
set_option maxHeartbeats 8000000 in
set_option maxRecDepth 100000 in
theorem impl_NumberAt.calls (k : Nat) (A0 : Option Addr) (c0 : Nat) (l0 : List Int) (a1 : Int) (a2 : Int) (r : Int) (w : World) (hr0 : Kd.C (Kd.int .u8) w A0 l0.length l0) (hc0 : l0.length ≤ c0) (h : impl_NumberAt.f k l0 a1 a2 = some r) :
    Calls Try.prog 55 #[.slice A0 l0.length c0, .int .i64 a1, .int .i64 a2] w fun e w' => e = .returned (.int .i64 r) ∧ Drawn0 w w' := by
  have HR0 := Aside0.mk hr0
  have HC0 := Aside0.mk hc0
  clear hr0 hc0
  have H : ((impl_in.f a2 1 4).bind fun t241 => (if t241 = true then (if a1 < 0 then (impl_NumberAt.j0 k l0 a1 a2 true) else (impl_NumberAt.j0 k l0 a1 a2 (decide (a1 > (wrap64 ((l0.length : Int) - a2)))))) else (impl_NumberAt.j0 k l0 a1 a2 true))) = some r := h
  clear h
  have HC4 := Aside0.mk H
  clear H
  go_enter Try.func55, Try.ntmps55
  go_upto_region 1 with (fail)
  go_cut [24] (fun v24 wc => ∃ (kq : Nat) (x24_3 : Bool), v24 = .bool x24_3 ∧ Aside0 (impl_NumberAt.j0 kq l0 a1 a2 x24_3 = some r) ∧ Aside0 (kq ≤ k) ∧ Drawn0 w wc)
  case first =>
    have H := HC4.out
    clear HC4
    replace H := Option.bind_eq_some_iff.mp H
    obtain ⟨t241, A50, H⟩ := H
    replace H : (if t241 = true then (if a1 < 0 then (impl_NumberAt.j0 k l0 a1 a2 true) else (impl_NumberAt.j0 k l0 a1 a2 (decide (a1 > (wrap64 ((l0.length : Int) - a2)))))) else (impl_NumberAt.j0 k l0 a1 a2 true)) = some r := H
    have A5 := Aside0.mk A50
    clear A50
    by_cases c6 : t241 = true
    · subst c6
      have H1 : (if a1 < 0 then (impl_NumberAt.j0 k l0 a1 a2 true) else (impl_NumberAt.j0 k l0 a1 a2 (decide (a1 > (wrap64 ((l0.length : Int) - a2)))))) = some r := by rw [if_pos rfl] at H; exact H
      clear H
      have H := H1
      clear H1
      by_cases c7 : a1 < 0
      · rw [if_pos c7] at H
        have c7b0 : decide (a1 < 0) = true := decide_eq_true c7
        clear c7
        (first | rw [c7b0] | (simp only [i64_w, i32_w]; rw [c7b0]) | skip)
        have H' := Aside0.mk H
        clear H
        go_wp2_with (first | ((with_reducible refine gate_callee (f := 57) rfl ?_); refine goesL_ (some 11) rfl rfl Try.func57 (by kernel_rfl) rfl #[.int .i64 a2, .int .i64 1, .int .i64 4] rfl (by (try simp only [List.map_toArray, List.map_cons, List.map_nil]); first | done | rfl | (simp only [List.length_drop, List.length_take]; rfl)) ?_; (with_reducible refine (impl_in.calls a2 1 4 true _ A5.out).mono ?_); rintro e w' ⟨rfl, ⟨nd, rfl⟩⟩; refine ⟨_, rfl, ?_⟩))
        go_meet
        case rel => exact ⟨_, (true), (by first | rfl | (simp; done) | (simp [*]; done)), H', ⟨by first | omega | exact Nat.le_refl _⟩, by repeat (first | exact Drawn0.refl _ | apply Drawn0.step)⟩
      · rw [if_neg c7] at H
        have c7b0 : decide (a1 < 0) = false := decide_eq_false c7
        clear c7
        (first | rw [c7b0] | (simp only [i64_w, i32_w]; rw [c7b0]) | skip)
        have H' := Aside0.mk H
        clear H
        go_wp2_with (first | ((with_reducible refine gate_callee (f := 57) rfl ?_); refine goesL_ (some 11) rfl rfl Try.func57 (by kernel_rfl) rfl #[.int .i64 a2, .int .i64 1, .int .i64 4] rfl (by (try simp only [List.map_toArray, List.map_cons, List.map_nil]); first | done | rfl | (simp only [List.length_drop, List.length_take]; rfl)) ?_; (with_reducible refine (impl_in.calls a2 1 4 true _ A5.out).mono ?_); rintro e w' ⟨rfl, ⟨nd, rfl⟩⟩; refine ⟨_, rfl, ?_⟩))
        go_meet
        case rel => exact ⟨_, (decide (a1 > (wrap64 ((l0.length : Int) - a2)))), (by first | rfl | (simp; done) | (simp [*]; done)), H', ⟨by first | omega | exact Nat.le_refl _⟩, by repeat (first | exact Drawn0.refl _ | apply Drawn0.step)⟩
    · replace c6 := Bool.eq_false_iff.mpr c6
      subst c6
      have H1 : (impl_NumberAt.j0 k l0 a1 a2 true) = some r := by rw [if_neg (show ¬ (false = true) by decide)] at H; exact H
      clear H
      have H := H1
      clear H1
      have H' := Aside0.mk H
      clear H
      go_wp2_with (first | ((with_reducible refine gate_callee (f := 57) rfl ?_); refine goesL_ (some 11) rfl rfl Try.func57 (by kernel_rfl) rfl #[.int .i64 a2, .int .i64 1, .int .i64 4] rfl (by (try simp only [List.map_toArray, List.map_cons, List.map_nil]); first | done | rfl | (simp only [List.length_drop, List.length_take]; rfl)) ?_; (with_reducible refine (impl_in.calls a2 1 4 false _ A5.out).mono ?_); rintro e w' ⟨rfl, ⟨nd, rfl⟩⟩; refine ⟨_, rfl, ?_⟩))
      go_meet
      case rel => exact ⟨_, (true), (by first | rfl | (simp; done) | (simp [*]; done)), H', ⟨by first | omega | exact Nat.le_refl _⟩, by repeat (first | exact Drawn0.refl _ | apply Drawn0.step)⟩
  case rest =>
    clear HC4
    try clear p2
    try clear c5
    try clear c6
    try clear p6
    try clear c7
    try clear c7b0
    obtain ⟨kq, x24_3, rfl, HA, HJ3, ⟨mc3, rfl⟩⟩ := hcut
    cases kq with
    | zero => exact absurd HA.out (by simp [impl_NumberAt.j0])
    | succ kj3 =>
      have H := HA.out
      clear HA
      simp only [impl_NumberAt.j0] at H
      by_cases c8 : x24_3 = true
      · subst c8
        have H1 : (some (-1)) = some r := by rw [if_pos rfl] at H; exact H
        clear H
        have H := H1
        clear H1
        obtain rfl := Option.some.inj H
        go_wp2
        go_ret
        exact ⟨by first | rfl | (simp; done) | (simp [*]; done), by repeat (first | exact Drawn0.refl _ | apply Drawn0.step)⟩
      · replace c8 := Bool.eq_false_iff.mpr c8
        subst c8
        have H1 : (if 0 ≤ a1 then (if a1 ≤ (wrap64 (a1 + a2)) then (if (wrap64 (a1 + a2)) ≤ (l0.length : Int) then (impl_NumberAt.l0 kj3 0 ((l0.take ((wrap64 (a1 + a2)) : Int).toNat).drop (a1 : Int).toNat) (((l0.take ((wrap64 (a1 + a2)) : Int).toNat).drop (a1 : Int).toNat).length : Int) 0) else (none)) else (none)) else (none)) = some r := by rw [if_neg (show ¬ (false = true) by decide)] at H; exact H
        clear H
        have H := H1
        clear H1
        by_cases c9 : 0 ≤ a1
        · rw [if_pos c9] at H
          have c9b0 := eq_true c9
          have c9b1 : decide (0 ≤ a1) = true := decide_eq_true c9
          clear c9
          by_cases c10 : a1 ≤ (wrap64 (a1 + a2))
          · rw [if_pos c10] at H
            have c10b0 := eq_true c10
            have c10b1 : decide (a1 ≤ (wrap64 (a1 + a2))) = true := decide_eq_true c10
            by_cases c11 : (wrap64 (a1 + a2)) ≤ (l0.length : Int)
            · rw [if_pos c11] at H
              have c11b0 := eq_true c11
              have c11b1 : decide ((wrap64 (a1 + a2)) ≤ (l0.length : Int)) = true := decide_eq_true c11
              have H' := Aside0.mk H
              clear H
              obtain ⟨i012, hi012, _, hsz12, _⟩ := info_parts info5
              obtain ⟨A12, hcut12, hA12, hC12⟩ := print_mid_of (P := Try.prog) (Value.int .u8) 0 22 5 .i64 .i64 Try.underlying22 hi012 hsz12 A0 c0 l0 a1 (wrap64 (a1 + a2)) (of_decide_eq_true (by first | (with_reducible assumption) | assumption)) (by first | omega | exact of_decide_eq_true (by first | (with_reducible assumption) | assumption)) (of_decide_eq_true (by first | (with_reducible assumption) | assumption)) HC0.out
              have HR242 := Aside0.mk (Kd.C_of_reads (h1 := fun _ => rfl) (hA12 _ (Kd.reads_of_C HR0.out)))
              have HC242 := Aside0.mk hC12
              clear hA12 hC12 hi012 hsz12
              obtain ⟨xs_, hxs_⟩ : ∃ x_ : List Int, x_ = ((l0.take ((wrap64 (a1 + a2)) : Int).toNat).drop (a1 : Int).toNat) := ⟨_, rfl⟩
              rw [← hxs_] at hcut12 HR242 HC242 H'
              clear hxs_
              go_wp2
              go_loopg [7, 32] kj3 (fun kq v7 v32 w' => ∃ (x7_2 : Int) (x32_2 : Int), v7 = .int .i64 x7_2 ∧ v32 = .int .i64 x32_2 ∧ Aside0 (impl_NumberAt.l0 kq x7_2 xs_ (xs_.length : Int) x32_2 = some r) ∧ Aside0 (kq ≤ kj3) ∧ Drawn0 w w')
              case atStart => exact ⟨(0), (0), (by first | rfl | (simp; done) | (simp [*]; done)), (by first | rfl | (simp; done) | (simp [*]; done)), H', ⟨Nat.le_refl _⟩, by repeat (first | exact Drawn0.refl _ | apply Drawn0.step)⟩
              case round =>
                clear H'
                try clear c1
                try clear p2
                try clear c3
                try clear c5
                try clear c6
                try clear p6
                try clear c7
                try clear c7b0
                try clear c8
                try clear c9
                try clear c9b0
                try clear c9b1
                try clear c10
                try clear c10b0
                try clear c10b1
                try clear c11
                try clear c11b0
                try clear c11b1
                try clear p2
                try clear p6
                obtain ⟨x7_2, x32_2, rfl, rfl, HA, HK2, ⟨m2, rfl⟩⟩ := hrel
                cases gk with
                | zero => exact absurd HA.out (by simp [impl_NumberAt.l0])
                | succ k2 =>
                  have H := HA.out
                  clear HA
                  simp only [impl_NumberAt.l0] at H
                  by_cases c13 : x32_2 < (xs_.length : Int)
                  · rw [if_pos c13] at H
                    have c13b0 : decide (x32_2 < (xs_.length : Int)) = true := decide_eq_true c13
                    clear c13
                    by_cases c14 : 0 ≤ x32_2
                    · rw [if_pos c14] at H
                      have c14b0 : decide (0 ≤ x32_2) = true := decide_eq_true c14
                      clear c14
                      by_cases c15 : x32_2 < (xs_.length : Int)
                      · rw [if_pos c15] at H
                        have c15b0 : decide (x32_2 < (xs_.length : Int)) = true := decide_eq_true c15
                        clear c15
                        have H' := Aside0.mk H
                        clear H
                        have p243 : 0 ≤ (x32_2 : Int) := of_decide_eq_true (by first | (with_reducible assumption) | assumption)
                        have q243 : x32_2 < (xs_.length : Int) := of_decide_eq_true (by first | (with_reducible assumption) | assumption)
                        obtain ⟨ad243, e243, hx243_0⟩ := Kd.at_int HR242.out x32_2 p243 q243
                        cases e243
                        replace p243 := eq_true p243
                        replace q243 := eq_true q243
                        go_wp2
                        go_roundg k2
                        case measure => have := HJ3.out; have := HK2.out; omega
                        case rel => exact ⟨(Go.bits .or .i64 (wrap64 (x7_2 * 256)) (wrap64 (rd xs_ x32_2))), (wrap64 (x32_2 + 1)), (by first | rfl | (simp; done) | (simp [*]; done)), (by first | rfl | (simp; done) | (simp [*]; done)), H', ⟨by have := HJ3.out; have := HK2.out; omega⟩, by repeat (first | exact Drawn0.refl _ | apply Drawn0.step)⟩
                      · rw [if_neg c15] at H
                        exact absurd H (by simp)
                    · rw [if_neg c14] at H
                      exact absurd H (by simp)
                  · rw [if_neg c13] at H
                    have c13b0 : decide (x32_2 < (xs_.length : Int)) = false := decide_eq_false c13
                    clear c13
                    obtain rfl := Option.some.inj H
                    go_wp2
                    go_ret
                    exact ⟨by first | rfl | (simp; done) | (simp [*]; done), by repeat (first | exact Drawn0.refl _ | apply Drawn0.step)⟩
            · rw [if_neg c11] at H
              exact absurd H (by simp)
          · rw [if_neg c10] at H
            exact absurd H (by simp)
        · rw [if_neg c9] at H
          exact absurd H (by simp)

/-! ### impl_RecordFrom: function 26 -/
def impl_RecordFrom.f (k : Nat) (a0 : Int) (a1 : Int) (l2 : List Int) : Option (List Int × Bool × Int) := (impl_sealOk.f a0 a1 ([] : List Int)).bind fun t244 => (if t244 = true then (if (l2.length : Int) = 0 then (some (([] : List Int), false, 0)) else (if 0 < (l2.length : Int) then (if (Int.tmod (wrap64 (rd l2 0)) 128) > 10 then (some (([] : List Int), false, (-1))) else (if (l2.length : Int) < (wrap64 ((Int.tmod (wrap64 (rd l2 0)) 128) + 3)) then (some (([] : List Int), false, 0)) else (if 1 ≤ (wrap64 ((Int.tmod (wrap64 (rd l2 0)) 128) + 1)) then (if (wrap64 ((Int.tmod (wrap64 (rd l2 0)) 128) + 1)) ≤ (l2.length : Int) then ((impl_clone_byte.f ((l2.take ((wrap64 ((Int.tmod (wrap64 (rd l2 0)) 128) + 1)) : Int).toNat).drop 1)).bind fun t248 => ((impl_SealOf.f k a0 a1 t248 (decide ((rd l2 0) ≥ 128))).bind fun t251 => ((impl_NumberAt.f k l2 (wrap64 ((Int.tmod (wrap64 (rd l2 0)) 128) + 1)) 2).bind fun t252 => (if t251 = t252 then (some (t248, decide ((rd l2 0) ≥ 128), wrap64 ((Int.tmod (wrap64 (rd l2 0)) 128) + 3))) else (some (([] : List Int), false, (-1))))))) else (none)) else (none)))) else (none))) else (some (([] : List Int), false, (-1))))
theorem impl_RecordFrom.mono : ∀ a0 a1 a2 k, LeO (impl_RecordFrom.f k a0 a1 a2) (impl_RecordFrom.f (k + 1) a0 a1 a2) := by
  intro a0 a1 a2 k
  unfold impl_RecordFrom.f
  repeat' first
      | (with_reducible exact impl_NumberAt.mono _ _ _ _)
      | (with_reducible exact impl_SealOf.mono _ _ _ _ _)
      | (with_reducible exact LeO.refl _)
      | (with_reducible exact LeO.none _)
      | (with_reducible refine LeO.ite ?_ ?_)
      | (with_reducible refine LeO.bind ?_ (fun _ => ?_))
      | exact impl_NumberAt.mono _ _ _ _
      | exact impl_SealOf.mono _ _ _ _ _
      | exact LeO.none _
      | refine LeO.ite ?_ ?_
      | refine LeO.bind ?_ (fun _ => ?_)
set_option maxHeartbeats 8000000 in
set_option maxRecDepth 100000 in
theorem impl_RecordFrom.calls (k : Nat) (a0 : Int) (a1 : Int) (A2 : Option Addr) (c2 : Nat) (l2 : List Int) (r1 : List Int) (r2 : Bool) (r3 : Int) (w : World) (hr2 : Kd.C (Kd.int .u8) w A2 l2.length l2) (hc2 : l2.length ≤ c2) (h : impl_RecordFrom.f k a0 a1 l2 = some (r1, r2, r3)) :
    Calls Try.prog 26 #[.int .i64 a0, .int .i64 a1, .slice A2 l2.length c2] w fun e w' => ∃ v0_ : Value, e = .returned (.tuple #[v0_, .bool r2, .int .i64 r3]) ∧ Kd.R (Kd.int .u8) 5 w' w.heap.size (fun _ => True) v0_ r1 ∧ Below w.heap.size w w' := by
  have HR2 := Aside0.mk hr2
  have HC2 := Aside0.mk hc2
  clear hr2 hc2
  have HB := Aside0.mk (Below.refl w.heap.size w)
  have H : ((impl_sealOk.f a0 a1 ([] : List Int)).bind fun t244 => (if t244 = true then (if (l2.length : Int) = 0 then (some (([] : List Int), false, 0)) else (if 0 < (l2.length : Int) then (if (Int.tmod (wrap64 (rd l2 0)) 128) > 10 then (some (([] : List Int), false, (-1))) else (if (l2.length : Int) < (wrap64 ((Int.tmod (wrap64 (rd l2 0)) 128) + 3)) then (some (([] : List Int), false, 0)) else (if 1 ≤ (wrap64 ((Int.tmod (wrap64 (rd l2 0)) 128) + 1)) then (if (wrap64 ((Int.tmod (wrap64 (rd l2 0)) 128) + 1)) ≤ (l2.length : Int) then ((impl_clone_byte.f ((l2.take ((wrap64 ((Int.tmod (wrap64 (rd l2 0)) 128) + 1)) : Int).toNat).drop 1)).bind fun t248 => ((impl_SealOf.f k a0 a1 t248 (decide ((rd l2 0) ≥ 128))).bind fun t251 => ((impl_NumberAt.f k l2 (wrap64 ((Int.tmod (wrap64 (rd l2 0)) 128) + 1)) 2).bind fun t252 => (if t251 = t252 then (some (t248, decide ((rd l2 0) ≥ 128), wrap64 ((Int.tmod (wrap64 (rd l2 0)) 128) + 3))) else (some (([] : List Int), false, (-1))))))) else (none)) else (none)))) else (none))) else (some (([] : List Int), false, (-1))))) = some (r1, r2, r3) := h
  clear h
  replace H := Option.bind_eq_some_iff.mp H
  obtain ⟨t244, A40, H⟩ := H
  replace H : (if t244 = true then (if (l2.length : Int) = 0 then (some (([] : List Int), false, 0)) else (if 0 < (l2.length : Int) then (if (Int.tmod (wrap64 (rd l2 0)) 128) > 10 then (some (([] : List Int), false, (-1))) else (if (l2.length : Int) < (wrap64 ((Int.tmod (wrap64 (rd l2 0)) 128) + 3)) then (some (([] : List Int), false, 0)) else (if 1 ≤ (wrap64 ((Int.tmod (wrap64 (rd l2 0)) 128) + 1)) then (if (wrap64 ((Int.tmod (wrap64 (rd l2 0)) 128) + 1)) ≤ (l2.length : Int) then ((impl_clone_byte.f ((l2.take ((wrap64 ((Int.tmod (wrap64 (rd l2 0)) 128) + 1)) : Int).toNat).drop 1)).bind fun t248 => ((impl_SealOf.f k a0 a1 t248 (decide ((rd l2 0) ≥ 128))).bind fun t251 => ((impl_NumberAt.f k l2 (wrap64 ((Int.tmod (wrap64 (rd l2 0)) 128) + 1)) 2).bind fun t252 => (if t251 = t252 then (some (t248, decide ((rd l2 0) ≥ 128), wrap64 ((Int.tmod (wrap64 (rd l2 0)) 128) + 3))) else (some (([] : List Int), false, (-1))))))) else (none)) else (none)))) else (none))) else (some (([] : List Int), false, (-1)))) = some (r1, r2, r3) := H
  have A4 := Aside0.mk A40
  clear A40
  by_cases c5 : t244 = true
  · subst c5
    have H1 : (if (l2.length : Int) = 0 then (some (([] : List Int), false, 0)) else (if 0 < (l2.length : Int) then (if (Int.tmod (wrap64 (rd l2 0)) 128) > 10 then (some (([] : List Int), false, (-1))) else (if (l2.length : Int) < (wrap64 ((Int.tmod (wrap64 (rd l2 0)) 128) + 3)) then (some (([] : List Int), false, 0)) else (if 1 ≤ (wrap64 ((Int.tmod (wrap64 (rd l2 0)) 128) + 1)) then (if (wrap64 ((Int.tmod (wrap64 (rd l2 0)) 128) + 1)) ≤ (l2.length : Int) then ((impl_clone_byte.f ((l2.take ((wrap64 ((Int.tmod (wrap64 (rd l2 0)) 128) + 1)) : Int).toNat).drop 1)).bind fun t248 => ((impl_SealOf.f k a0 a1 t248 (decide ((rd l2 0) ≥ 128))).bind fun t251 => ((impl_NumberAt.f k l2 (wrap64 ((Int.tmod (wrap64 (rd l2 0)) 128) + 1)) 2).bind fun t252 => (if t251 = t252 then (some (t248, decide ((rd l2 0) ≥ 128), wrap64 ((Int.tmod (wrap64 (rd l2 0)) 128) + 3))) else (some (([] : List Int), false, (-1))))))) else (none)) else (none)))) else (none))) = some (r1, r2, r3) := by rw [if_pos rfl] at H; exact H
    clear H
    have H := H1
    clear H1
    by_cases c6 : (l2.length : Int) = 0
    · rw [if_pos c6] at H
      have c6b0 : ((l2.length : Int) == 0) = true := beq_iff_eq.mpr c6
      have c6b1 : ((l2.length : Int) != 0) = false := bne_eq_false_iff_eq.mpr c6
      clear c6
      simp only [Option.some.injEq, Prod.mk.injEq] at H
      obtain ⟨rfl, rfl, rfl⟩ := H
      go_enter Try.func26, Try.ntmps26
      go_wp2_with (first | (go_at_call 42; (refine (impl_sealOk.calls a0 a1 _ _ ([] : List Int) true _ ?side1 ?side2 A4.out).mono ?_); (case side1 => exact Kd.C_nil _ _); (case side2 => exact Nat.le_refl _); rintro e w' ⟨rfl, ⟨nd, rfl⟩⟩; (try first | exact ⟨rfl, _, World.drewN_drewN _ _ _⟩ | exact ⟨rfl, _, Eq.trans (World.drewN_drewN _ _ _) (congrArg (World.drewN _) (Nat.add_assoc _ _ _))⟩)))
      repeat (go_quiet (first | (go_at_call 42; (refine (impl_sealOk.calls a0 a1 _ _ ([] : List Int) true _ ?side1 ?side2 A4.out).mono ?_); (case side1 => exact Kd.C_nil _ _); (case side2 => exact Nat.le_refl _); rintro e w' ⟨rfl, ⟨nd, rfl⟩⟩; (try first | exact ⟨rfl, _, World.drewN_drewN _ _ _⟩ | exact ⟨rfl, _, Eq.trans (World.drewN_drewN _ _ _) (congrArg (World.drewN _) (Nat.add_assoc _ _ _))⟩))); try go_wp2_with (first | (go_at_call 42; (refine (impl_sealOk.calls a0 a1 _ _ ([] : List Int) true _ ?side1 ?side2 A4.out).mono ?_); (case side1 => exact Kd.C_nil _ _); (case side2 => exact Nat.le_refl _); rintro e w' ⟨rfl, ⟨nd, rfl⟩⟩; (try first | exact ⟨rfl, _, World.drewN_drewN _ _ _⟩ | exact ⟨rfl, _, Eq.trans (World.drewN_drewN _ _ _) (congrArg (World.drewN _) (Nat.add_assoc _ _ _))⟩))))
      go_ret3
      exact ⟨_, by first | rfl | (simp [errW_none, errW_some] <;> rfl) | (simp [*, errW_none, errW_some] <;> rfl), by first | exact Kd.R_nil _ _ _ _ _ | exact Kd.N_nil _ _ _ _ _ | exact Kd.V_nil _ _ _ _ _ | exact Kd.Q_nil _ _ _ _ _ | exact Kd.S_nil _ _ _ _ _, by repeat (first | (with_reducible first | exact HB.out | apply below_alloc | apply pw_below_drewN | apply below_drew1) | exact HB.out)⟩
    · rw [if_neg c6] at H
      have c6b0 : ((l2.length : Int) == 0) = false := beq_eq_false_iff_ne.mpr c6
      have c6b1 : ((l2.length : Int) != 0) = true := bne_iff_ne.mpr c6
      have c6b2 : ¬ (l2 = []) := fun h_ => c6 (by rw [h_]; rfl)
      by_cases c7 : 0 < (l2.length : Int)
      · rw [if_pos c7] at H
        have c7b0 : decide (0 < (l2.length : Int)) = true := decide_eq_true c7
        have c7b1 : decide (0 < l2.length) = true := decide_eq_true (by omega)
        clear c7
        by_cases c8 : (Int.tmod (wrap64 (rd l2 0)) 128) > 10
        · rw [if_pos c8] at H
          have c8b0 : decide (10 < (Int.tmod (wrap64 (rd l2 0)) 128)) = true := decide_eq_true c8
          clear c8
          simp only [Option.some.injEq, Prod.mk.injEq] at H
          obtain ⟨rfl, rfl, rfl⟩ := H
          go_enter Try.func26, Try.ntmps26
          go_wp2_with (first | (go_at_call 42; (refine (impl_sealOk.calls a0 a1 _ _ ([] : List Int) true _ ?side1 ?side2 A4.out).mono ?_); (case side1 => exact Kd.C_nil _ _); (case side2 => exact Nat.le_refl _); rintro e w' ⟨rfl, ⟨nd, rfl⟩⟩; (try first | exact ⟨rfl, _, World.drewN_drewN _ _ _⟩ | exact ⟨rfl, _, Eq.trans (World.drewN_drewN _ _ _) (congrArg (World.drewN _) (Nat.add_assoc _ _ _))⟩); have p245 : 0 ≤ (0 : Int) := (by omega); have q245 : 0 < (l2.length : Int) := of_decide_eq_true (by first | (with_reducible assumption) | assumption); obtain ⟨ad245, e245, hx245_0⟩ := Kd.at_int HR2.out 0 p245 q245; cases e245; have qi245 : (0 < l2.length) = True := eq_true (by omega); (try rw [show ((0 : Int)).toNat = 0 from rfl] at hx245_0); (try rw [Addr.add_zero'] at hx245_0); replace p245 := eq_true p245; replace q245 := eq_true q245; have p246 : 0 ≤ (0 : Int) := (by omega); have q246 : 0 < (l2.length : Int) := of_decide_eq_true (by first | (with_reducible assumption) | assumption); obtain ⟨ad246, e246, hx246_0⟩ := Kd.at_int HR2.out 0 p246 q246; obtain rfl : ad245 = ad246 := (by injection e246); have qi246 : (0 < l2.length) = True := eq_true (by omega); (try rw [show ((0 : Int)).toNat = 0 from rfl] at hx246_0); (try rw [Addr.add_zero'] at hx246_0); replace p246 := eq_true p246; replace q246 := eq_true q246))
          repeat (go_quiet (first | (go_at_call 42; (refine (impl_sealOk.calls a0 a1 _ _ ([] : List Int) true _ ?side1 ?side2 A4.out).mono ?_); (case side1 => exact Kd.C_nil _ _); (case side2 => exact Nat.le_refl _); rintro e w' ⟨rfl, ⟨nd, rfl⟩⟩; (try first | exact ⟨rfl, _, World.drewN_drewN _ _ _⟩ | exact ⟨rfl, _, Eq.trans (World.drewN_drewN _ _ _) (congrArg (World.drewN _) (Nat.add_assoc _ _ _))⟩); have p245 : 0 ≤ (0 : Int) := (by omega); have q245 : 0 < (l2.length : Int) := of_decide_eq_true (by first | (with_reducible assumption) | assumption); obtain ⟨ad245, e245, hx245_0⟩ := Kd.at_int HR2.out 0 p245 q245; cases e245; have qi245 : (0 < l2.length) = True := eq_true (by omega); (try rw [show ((0 : Int)).toNat = 0 from rfl] at hx245_0); (try rw [Addr.add_zero'] at hx245_0); replace p245 := eq_true p245; replace q245 := eq_true q245; have p246 : 0 ≤ (0 : Int) := (by omega); have q246 : 0 < (l2.length : Int) := of_decide_eq_true (by first | (with_reducible assumption) | assumption); obtain ⟨ad246, e246, hx246_0⟩ := Kd.at_int HR2.out 0 p246 q246; obtain rfl : ad245 = ad246 := (by injection e246); have qi246 : (0 < l2.length) = True := eq_true (by omega); (try rw [show ((0 : Int)).toNat = 0 from rfl] at hx246_0); (try rw [Addr.add_zero'] at hx246_0); replace p246 := eq_true p246; replace q246 := eq_true q246)); try go_wp2_with (first | (go_at_call 42; (refine (impl_sealOk.calls a0 a1 _ _ ([] : List Int) true _ ?side1 ?side2 A4.out).mono ?_); (case side1 => exact Kd.C_nil _ _); (case side2 => exact Nat.le_refl _); rintro e w' ⟨rfl, ⟨nd, rfl⟩⟩; (try first | exact ⟨rfl, _, World.drewN_drewN _ _ _⟩ | exact ⟨rfl, _, Eq.trans (World.drewN_drewN _ _ _) (congrArg (World.drewN _) (Nat.add_assoc _ _ _))⟩); have p245 : 0 ≤ (0 : Int) := (by omega); have q245 : 0 < (l2.length : Int) := of_decide_eq_true (by first | (with_reducible assumption) | assumption); obtain ⟨ad245, e245, hx245_0⟩ := Kd.at_int HR2.out 0 p245 q245; cases e245; have qi245 : (0 < l2.length) = True := eq_true (by omega); (try rw [show ((0 : Int)).toNat = 0 from rfl] at hx245_0); (try rw [Addr.add_zero'] at hx245_0); replace p245 := eq_true p245; replace q245 := eq_true q245; have p246 : 0 ≤ (0 : Int) := (by omega); have q246 : 0 < (l2.length : Int) := of_decide_eq_true (by first | (with_reducible assumption) | assumption); obtain ⟨ad246, e246, hx246_0⟩ := Kd.at_int HR2.out 0 p246 q246; obtain rfl : ad245 = ad246 := (by injection e246); have qi246 : (0 < l2.length) = True := eq_true (by omega); (try rw [show ((0 : Int)).toNat = 0 from rfl] at hx246_0); (try rw [Addr.add_zero'] at hx246_0); replace p246 := eq_true p246; replace q246 := eq_true q246)))
          go_ret3
          exact ⟨_, by first | rfl | (simp [errW_none, errW_some] <;> rfl) | (simp [*, errW_none, errW_some] <;> rfl), by first | exact Kd.R_nil _ _ _ _ _ | exact Kd.N_nil _ _ _ _ _ | exact Kd.V_nil _ _ _ _ _ | exact Kd.Q_nil _ _ _ _ _ | exact Kd.S_nil _ _ _ _ _, by repeat (first | (with_reducible first | exact HB.out | apply below_alloc | apply pw_below_drewN | apply below_drew1) | exact HB.out)⟩
        · rw [if_neg c8] at H
          have c8b0 : decide (10 < (Int.tmod (wrap64 (rd l2 0)) 128)) = false := decide_eq_false c8
          clear c8
          by_cases c9 : (l2.length : Int) < (wrap64 ((Int.tmod (wrap64 (rd l2 0)) 128) + 3))
          · rw [if_pos c9] at H
            have c9b0 : decide ((l2.length : Int) < (wrap64 ((Int.tmod (wrap64 (rd l2 0)) 128) + 3))) = true := decide_eq_true c9
            clear c9
            simp only [Option.some.injEq, Prod.mk.injEq] at H
            obtain ⟨rfl, rfl, rfl⟩ := H
            go_enter Try.func26, Try.ntmps26
            go_wp2_with (first | (go_at_call 42; (refine (impl_sealOk.calls a0 a1 _ _ ([] : List Int) true _ ?side1 ?side2 A4.out).mono ?_); (case side1 => exact Kd.C_nil _ _); (case side2 => exact Nat.le_refl _); rintro e w' ⟨rfl, ⟨nd, rfl⟩⟩; (try first | exact ⟨rfl, _, World.drewN_drewN _ _ _⟩ | exact ⟨rfl, _, Eq.trans (World.drewN_drewN _ _ _) (congrArg (World.drewN _) (Nat.add_assoc _ _ _))⟩); have p245 : 0 ≤ (0 : Int) := (by omega); have q245 : 0 < (l2.length : Int) := of_decide_eq_true (by first | (with_reducible assumption) | assumption); obtain ⟨ad245, e245, hx245_0⟩ := Kd.at_int HR2.out 0 p245 q245; cases e245; have qi245 : (0 < l2.length) = True := eq_true (by omega); (try rw [show ((0 : Int)).toNat = 0 from rfl] at hx245_0); (try rw [Addr.add_zero'] at hx245_0); replace p245 := eq_true p245; replace q245 := eq_true q245; have p246 : 0 ≤ (0 : Int) := (by omega); have q246 : 0 < (l2.length : Int) := of_decide_eq_true (by first | (with_reducible assumption) | assumption); obtain ⟨ad246, e246, hx246_0⟩ := Kd.at_int HR2.out 0 p246 q246; obtain rfl : ad245 = ad246 := (by injection e246); have qi246 : (0 < l2.length) = True := eq_true (by omega); (try rw [show ((0 : Int)).toNat = 0 from rfl] at hx246_0); (try rw [Addr.add_zero'] at hx246_0); replace p246 := eq_true p246; replace q246 := eq_true q246))
            repeat (go_quiet (first | (go_at_call 42; (refine (impl_sealOk.calls a0 a1 _ _ ([] : List Int) true _ ?side1 ?side2 A4.out).mono ?_); (case side1 => exact Kd.C_nil _ _); (case side2 => exact Nat.le_refl _); rintro e w' ⟨rfl, ⟨nd, rfl⟩⟩; (try first | exact ⟨rfl, _, World.drewN_drewN _ _ _⟩ | exact ⟨rfl, _, Eq.trans (World.drewN_drewN _ _ _) (congrArg (World.drewN _) (Nat.add_assoc _ _ _))⟩); have p245 : 0 ≤ (0 : Int) := (by omega); have q245 : 0 < (l2.length : Int) := of_decide_eq_true (by first | (with_reducible assumption) | assumption); obtain ⟨ad245, e245, hx245_0⟩ := Kd.at_int HR2.out 0 p245 q245; cases e245; have qi245 : (0 < l2.length) = True := eq_true (by omega); (try rw [show ((0 : Int)).toNat = 0 from rfl] at hx245_0); (try rw [Addr.add_zero'] at hx245_0); replace p245 := eq_true p245; replace q245 := eq_true q245; have p246 : 0 ≤ (0 : Int) := (by omega); have q246 : 0 < (l2.length : Int) := of_decide_eq_true (by first | (with_reducible assumption) | assumption); obtain ⟨ad246, e246, hx246_0⟩ := Kd.at_int HR2.out 0 p246 q246; obtain rfl : ad245 = ad246 := (by injection e246); have qi246 : (0 < l2.length) = True := eq_true (by omega); (try rw [show ((0 : Int)).toNat = 0 from rfl] at hx246_0); (try rw [Addr.add_zero'] at hx246_0); replace p246 := eq_true p246; replace q246 := eq_true q246)); try go_wp2_with (first | (go_at_call 42; (refine (impl_sealOk.calls a0 a1 _ _ ([] : List Int) true _ ?side1 ?side2 A4.out).mono ?_); (case side1 => exact Kd.C_nil _ _); (case side2 => exact Nat.le_refl _); rintro e w' ⟨rfl, ⟨nd, rfl⟩⟩; (try first | exact ⟨rfl, _, World.drewN_drewN _ _ _⟩ | exact ⟨rfl, _, Eq.trans (World.drewN_drewN _ _ _) (congrArg (World.drewN _) (Nat.add_assoc _ _ _))⟩); have p245 : 0 ≤ (0 : Int) := (by omega); have q245 : 0 < (l2.length : Int) := of_decide_eq_true (by first | (with_reducible assumption) | assumption); obtain ⟨ad245, e245, hx245_0⟩ := Kd.at_int HR2.out 0 p245 q245; cases e245; have qi245 : (0 < l2.length) = True := eq_true (by omega); (try rw [show ((0 : Int)).toNat = 0 from rfl] at hx245_0); (try rw [Addr.add_zero'] at hx245_0); replace p245 := eq_true p245; replace q245 := eq_true q245; have p246 : 0 ≤ (0 : Int) := (by omega); have q246 : 0 < (l2.length : Int) := of_decide_eq_true (by first | (with_reducible assumption) | assumption); obtain ⟨ad246, e246, hx246_0⟩ := Kd.at_int HR2.out 0 p246 q246; obtain rfl : ad245 = ad246 := (by injection e246); have qi246 : (0 < l2.length) = True := eq_true (by omega); (try rw [show ((0 : Int)).toNat = 0 from rfl] at hx246_0); (try rw [Addr.add_zero'] at hx246_0); replace p246 := eq_true p246; replace q246 := eq_true q246)))
            go_ret3
            exact ⟨_, by first | rfl | (simp [errW_none, errW_some] <;> rfl) | (simp [*, errW_none, errW_some] <;> rfl), by first | exact Kd.R_nil _ _ _ _ _ | exact Kd.N_nil _ _ _ _ _ | exact Kd.V_nil _ _ _ _ _ | exact Kd.Q_nil _ _ _ _ _ | exact Kd.S_nil _ _ _ _ _, by repeat (first | (with_reducible first | exact HB.out | apply below_alloc | apply pw_below_drewN | apply below_drew1) | exact HB.out)⟩
          · rw [if_neg c9] at H
            have c9b0 : decide ((l2.length : Int) < (wrap64 ((Int.tmod (wrap64 (rd l2 0)) 128) + 3))) = false := decide_eq_false c9
            clear c9
            by_cases c10 : 1 ≤ (wrap64 ((Int.tmod (wrap64 (rd l2 0)) 128) + 1))
            · rw [if_pos c10] at H
              have c10b0 := eq_true c10
              have c10b1 : decide (1 ≤ (wrap64 ((Int.tmod (wrap64 (rd l2 0)) 128) + 1))) = true := decide_eq_true c10
              by_cases c11 : (wrap64 ((Int.tmod (wrap64 (rd l2 0)) 128) + 1)) ≤ (l2.length : Int)
              · rw [if_pos c11] at H
                have c11b0 := eq_true c11
                have c11b1 : decide ((wrap64 ((Int.tmod (wrap64 (rd l2 0)) 128) + 1)) ≤ (l2.length : Int)) = true := decide_eq_true c11
                replace H := Option.bind_eq_some_iff.mp H
                obtain ⟨t248, A120, H⟩ := H
                replace H : ((impl_SealOf.f k a0 a1 t248 (decide ((rd l2 0) ≥ 128))).bind fun t251 => ((impl_NumberAt.f k l2 (wrap64 ((Int.tmod (wrap64 (rd l2 0)) 128) + 1)) 2).bind fun t252 => (if t251 = t252 then (some (t248, decide ((rd l2 0) ≥ 128), wrap64 ((Int.tmod (wrap64 (rd l2 0)) 128) + 3))) else (some (([] : List Int), false, (-1)))))) = some (r1, r2, r3) := H
                have A12 := Aside0.mk A120
                clear A120
                replace H := Option.bind_eq_some_iff.mp H
                obtain ⟨t251, A130, H⟩ := H
                replace H : ((impl_NumberAt.f k l2 (wrap64 ((Int.tmod (wrap64 (rd l2 0)) 128) + 1)) 2).bind fun t252 => (if t251 = t252 then (some (t248, decide ((rd l2 0) ≥ 128), wrap64 ((Int.tmod (wrap64 (rd l2 0)) 128) + 3))) else (some (([] : List Int), false, (-1))))) = some (r1, r2, r3) := H
                have A13 := Aside0.mk A130
                clear A130
                replace H := Option.bind_eq_some_iff.mp H
                obtain ⟨t252, A140, H⟩ := H
                replace H : (if t251 = t252 then (some (t248, decide ((rd l2 0) ≥ 128), wrap64 ((Int.tmod (wrap64 (rd l2 0)) 128) + 3))) else (some (([] : List Int), false, (-1)))) = some (r1, r2, r3) := H
                have A14 := Aside0.mk A140
                clear A140
                by_cases c15 : t251 = t252
                · rw [if_pos c15] at H
                  have c15b0 : (t251 == t252) = true := beq_iff_eq.mpr c15
                  have c15b1 : (t251 != t252) = false := bne_eq_false_iff_eq.mpr c15
                  clear c15
                  simp only [Option.some.injEq, Prod.mk.injEq] at H
                  obtain ⟨rfl, rfl, rfl⟩ := H
                  go_enter Try.func26, Try.ntmps26
                  go_wp2_with (first | (go_at_call 42; (refine (impl_sealOk.calls a0 a1 _ _ ([] : List Int) true _ ?side1 ?side2 A4.out).mono ?_); (case side1 => exact Kd.C_nil _ _); (case side2 => exact Nat.le_refl _); rintro e w' ⟨rfl, ⟨nd, rfl⟩⟩; (try first | exact ⟨rfl, _, World.drewN_drewN _ _ _⟩ | exact ⟨rfl, _, Eq.trans (World.drewN_drewN _ _ _) (congrArg (World.drewN _) (Nat.add_assoc _ _ _))⟩); have p245 : 0 ≤ (0 : Int) := (by omega); have q245 : 0 < (l2.length : Int) := of_decide_eq_true (by first | (with_reducible assumption) | assumption); obtain ⟨ad245, e245, hx245_0⟩ := Kd.at_int HR2.out 0 p245 q245; cases e245; have qi245 : (0 < l2.length) = True := eq_true (by omega); (try rw [show ((0 : Int)).toNat = 0 from rfl] at hx245_0); (try rw [Addr.add_zero'] at hx245_0); replace p245 := eq_true p245; replace q245 := eq_true q245; have p246 : 0 ≤ (0 : Int) := (by omega); have q246 : 0 < (l2.length : Int) := of_decide_eq_true (by first | (with_reducible assumption) | assumption); obtain ⟨ad246, e246, hx246_0⟩ := Kd.at_int HR2.out 0 p246 q246; obtain rfl : ad245 = ad246 := (by injection e246); have qi246 : (0 < l2.length) = True := eq_true (by omega); (try rw [show ((0 : Int)).toNat = 0 from rfl] at hx246_0); (try rw [Addr.add_zero'] at hx246_0); replace p246 := eq_true p246; replace q246 := eq_true q246; obtain ⟨i016, hi016, _, hsz16, _⟩ := info_parts info5; obtain ⟨A16, hcut16, hA16, hC16⟩ := print_mid_of (P := Try.prog) (Value.int .u8) 0 22 5 .i64 .i64 Try.underlying22 hi016 hsz16 (some ad245) c2 l2 1 (wrap64 ((Int.tmod (wrap64 (rd l2 0)) 128) + 1)) (by omega) (by first | omega | exact of_decide_eq_true (by first | (with_reducible assumption) | assumption)) (of_decide_eq_true (by first | (with_reducible assumption) | assumption)) HC2.out; have HR247 := Aside0.mk (Kd.C_of_reads (h1 := fun _ => rfl) (hA16 _ (Kd.reads_of_C HR2.out))); have HC247 := Aside0.mk hC16; clear hA16 hC16 hi016 hsz16; obtain ⟨xs_, hxs_⟩ : ∃ x_ : List Int, x_ = ((l2.take ((wrap64 ((Int.tmod (wrap64 (rd l2 0)) 128) + 1)) : Int).toNat).drop (1 : Int).toNat) := ⟨_, rfl⟩; have hxt_ : xs_ = ((l2.take ((wrap64 ((Int.tmod (wrap64 (rd l2 0)) 128) + 1)) : Int).toNat).drop 1) := hxs_; rw [← hxs_] at hcut16 HR247 HC247; rw [← hxt_] at A12; clear hxs_ hxt_) | (go_at_call 54; (with_reducible refine (impl_clone_byte.calls _ _ xs_ t248 _ ?side1 ?side2 A12.out).mono ?_); (case side1 => repeat (first | exact HR247.out | (with_reducible refine Kd.C_alloc ?_ _) | (with_reducible refine Kd.C_drewN ?_ _) | (with_reducible refine Kd.C_drew ?_))); (case side2 => exact HC247.out); rintro e w17 ⟨v249, rfl, ho0, hb⟩; have n0_ := Aside0.mk (Kd.R_lower ho0 (below_size (by repeat (first | (with_reducible first | exact HB.out | apply below_alloc | apply pw_below_drewN | apply below_drew1) | exact HB.out)))); have n1_ := Aside0.mk (below_step (by repeat (first | (with_reducible first | exact HB.out | apply below_alloc | apply pw_below_drewN | apply below_drew1) | exact HB.out)) hb); clear HB; have HO250 := n0_; have HB := n1_; clear n0_ n1_; (try clear hb); (try clear hb2); (try clear hk); (try clear hi); (try clear ho0); obtain ⟨Ao18, co18, eo18⟩ := Kd.R_slice HO250.out; subst eo18) | (go_at_call 17; (with_reducible refine (impl_SealOf.calls k a0 a1 _ _ t248 (decide ((rd l2 0) ≥ 128)) t251 _ ?side1 ?side2 A13.out).mono ?_); (case side1 => repeat (first | exact (Kd.R_reads' HO250.out).2.2 | (with_reducible refine Kd.C_alloc ?_ _) | (with_reducible refine Kd.C_drewN ?_ _) | (with_reducible refine Kd.C_drew ?_))); (case side2 => exact (Kd.R_reads' HO250.out).2.1); rintro e w19 ⟨rfl, hb⟩; have n0_ := Aside0.mk (Kd.R_below (by (with_reducible repeat (first | apply Kd.R_alloc | apply Kd.R_drewN | apply Kd.R_drew)); exact HO250.out) hb); have n1_ := Aside0.mk (below_step (by repeat (first | (with_reducible first | exact HB.out | apply below_alloc | apply pw_below_drewN | apply below_drew1) | exact HB.out)) hb); clear HO250; clear HB; have HO250 := n0_; have HB := n1_; clear n0_ n1_; (try clear hb); (try clear hb2); (try clear hk); (try clear hi)) | (go_at_call 55; (with_reducible refine (impl_NumberAt.calls k _ _ l2 (wrap64 ((Int.tmod (wrap64 (rd l2 0)) 128) + 1)) 2 t252 _ ?side1 ?side2 A14.out).mono ?_); (case side1 => repeat (first | exact (Kd.C_below HR2.out HB.out) | (with_reducible refine Kd.C_alloc ?_ _) | (with_reducible refine Kd.C_drewN ?_ _) | (with_reducible refine Kd.C_drew ?_))); (case side2 => exact HC2.out); rintro e w' ⟨rfl, ⟨nd, rfl⟩⟩; (try first | exact ⟨rfl, _, World.drewN_drewN _ _ _⟩ | exact ⟨rfl, _, Eq.trans (World.drewN_drewN _ _ _) (congrArg (World.drewN _) (Nat.add_assoc _ _ _))⟩)))
                  repeat (go_quiet (first | (go_at_call 42; (refine (impl_sealOk.calls a0 a1 _ _ ([] : List Int) true _ ?side1 ?side2 A4.out).mono ?_); (case side1 => exact Kd.C_nil _ _); (case side2 => exact Nat.le_refl _); rintro e w' ⟨rfl, ⟨nd, rfl⟩⟩; (try first | exact ⟨rfl, _, World.drewN_drewN _ _ _⟩ | exact ⟨rfl, _, Eq.trans (World.drewN_drewN _ _ _) (congrArg (World.drewN _) (Nat.add_assoc _ _ _))⟩); have p245 : 0 ≤ (0 : Int) := (by omega); have q245 : 0 < (l2.length : Int) := of_decide_eq_true (by first | (with_reducible assumption) | assumption); obtain ⟨ad245, e245, hx245_0⟩ := Kd.at_int HR2.out 0 p245 q245; cases e245; have qi245 : (0 < l2.length) = True := eq_true (by omega); (try rw [show ((0 : Int)).toNat = 0 from rfl] at hx245_0); (try rw [Addr.add_zero'] at hx245_0); replace p245 := eq_true p245; replace q245 := eq_true q245; have p246 : 0 ≤ (0 : Int) := (by omega); have q246 : 0 < (l2.length : Int) := of_decide_eq_true (by first | (with_reducible assumption) | assumption); obtain ⟨ad246, e246, hx246_0⟩ := Kd.at_int HR2.out 0 p246 q246; obtain rfl : ad245 = ad246 := (by injection e246); have qi246 : (0 < l2.length) = True := eq_true (by omega); (try rw [show ((0 : Int)).toNat = 0 from rfl] at hx246_0); (try rw [Addr.add_zero'] at hx246_0); replace p246 := eq_true p246; replace q246 := eq_true q246; obtain ⟨i016, hi016, _, hsz16, _⟩ := info_parts info5; obtain ⟨A16, hcut16, hA16, hC16⟩ := print_mid_of (P := Try.prog) (Value.int .u8) 0 22 5 .i64 .i64 Try.underlying22 hi016 hsz16 (some ad245) c2 l2 1 (wrap64 ((Int.tmod (wrap64 (rd l2 0)) 128) + 1)) (by omega) (by first | omega | exact of_decide_eq_true (by first | (with_reducible assumption) | assumption)) (of_decide_eq_true (by first | (with_reducible assumption) | assumption)) HC2.out; have HR247 := Aside0.mk (Kd.C_of_reads (h1 := fun _ => rfl) (hA16 _ (Kd.reads_of_C HR2.out))); have HC247 := Aside0.mk hC16; clear hA16 hC16 hi016 hsz16; obtain ⟨xs_, hxs_⟩ : ∃ x_ : List Int, x_ = ((l2.take ((wrap64 ((Int.tmod (wrap64 (rd l2 0)) 128) + 1)) : Int).toNat).drop (1 : Int).toNat) := ⟨_, rfl⟩; have hxt_ : xs_ = ((l2.take ((wrap64 ((Int.tmod (wrap64 (rd l2 0)) 128) + 1)) : Int).toNat).drop 1) := hxs_; rw [← hxs_] at hcut16 HR247 HC247; rw [← hxt_] at A12; clear hxs_ hxt_) | (go_at_call 54; (with_reducible refine (impl_clone_byte.calls _ _ xs_ t248 _ ?side1 ?side2 A12.out).mono ?_); (case side1 => repeat (first | exact HR247.out | (with_reducible refine Kd.C_alloc ?_ _) | (with_reducible refine Kd.C_drewN ?_ _) | (with_reducible refine Kd.C_drew ?_))); (case side2 => exact HC247.out); rintro e w17 ⟨v249, rfl, ho0, hb⟩; have n0_ := Aside0.mk (Kd.R_lower ho0 (below_size (by repeat (first | (with_reducible first | exact HB.out | apply below_alloc | apply pw_below_drewN | apply below_drew1) | exact HB.out)))); have n1_ := Aside0.mk (below_step (by repeat (first | (with_reducible first | exact HB.out | apply below_alloc | apply pw_below_drewN | apply below_drew1) | exact HB.out)) hb); clear HB; have HO250 := n0_; have HB := n1_; clear n0_ n1_; (try clear hb); (try clear hb2); (try clear hk); (try clear hi); (try clear ho0); obtain ⟨Ao18, co18, eo18⟩ := Kd.R_slice HO250.out; subst eo18) | (go_at_call 17; (with_reducible refine (impl_SealOf.calls k a0 a1 _ _ t248 (decide ((rd l2 0) ≥ 128)) t251 _ ?side1 ?side2 A13.out).mono ?_); (case side1 => repeat (first | exact (Kd.R_reads' HO250.out).2.2 | (with_reducible refine Kd.C_alloc ?_ _) | (with_reducible refine Kd.C_drewN ?_ _) | (with_reducible refine Kd.C_drew ?_))); (case side2 => exact (Kd.R_reads' HO250.out).2.1); rintro e w19 ⟨rfl, hb⟩; have n0_ := Aside0.mk (Kd.R_below (by (with_reducible repeat (first | apply Kd.R_alloc | apply Kd.R_drewN | apply Kd.R_drew)); exact HO250.out) hb); have n1_ := Aside0.mk (below_step (by repeat (first | (with_reducible first | exact HB.out | apply below_alloc | apply pw_below_drewN | apply below_drew1) | exact HB.out)) hb); clear HO250; clear HB; have HO250 := n0_; have HB := n1_; clear n0_ n1_; (try clear hb); (try clear hb2); (try clear hk); (try clear hi)) | (go_at_call 55; (with_reducible refine (impl_NumberAt.calls k _ _ l2 (wrap64 ((Int.tmod (wrap64 (rd l2 0)) 128) + 1)) 2 t252 _ ?side1 ?side2 A14.out).mono ?_); (case side1 => repeat (first | exact (Kd.C_below HR2.out HB.out) | (with_reducible refine Kd.C_alloc ?_ _) | (with_reducible refine Kd.C_drewN ?_ _) | (with_reducible refine Kd.C_drew ?_))); (case side2 => exact HC2.out); rintro e w' ⟨rfl, ⟨nd, rfl⟩⟩; (try first | exact ⟨rfl, _, World.drewN_drewN _ _ _⟩ | exact ⟨rfl, _, Eq.trans (World.drewN_drewN _ _ _) (congrArg (World.drewN _) (Nat.add_assoc _ _ _))⟩))); try go_wp2_with (first | (go_at_call 42; (refine (impl_sealOk.calls a0 a1 _ _ ([] : List Int) true _ ?side1 ?side2 A4.out).mono ?_); (case side1 => exact Kd.C_nil _ _); (case side2 => exact Nat.le_refl _); rintro e w' ⟨rfl, ⟨nd, rfl⟩⟩; (try first | exact ⟨rfl, _, World.drewN_drewN _ _ _⟩ | exact ⟨rfl, _, Eq.trans (World.drewN_drewN _ _ _) (congrArg (World.drewN _) (Nat.add_assoc _ _ _))⟩); have p245 : 0 ≤ (0 : Int) := (by omega); have q245 : 0 < (l2.length : Int) := of_decide_eq_true (by first | (with_reducible assumption) | assumption); obtain ⟨ad245, e245, hx245_0⟩ := Kd.at_int HR2.out 0 p245 q245; cases e245; have qi245 : (0 < l2.length) = True := eq_true (by omega); (try rw [show ((0 : Int)).toNat = 0 from rfl] at hx245_0); (try rw [Addr.add_zero'] at hx245_0); replace p245 := eq_true p245; replace q245 := eq_true q245; have p246 : 0 ≤ (0 : Int) := (by omega); have q246 : 0 < (l2.length : Int) := of_decide_eq_true (by first | (with_reducible assumption) | assumption); obtain ⟨ad246, e246, hx246_0⟩ := Kd.at_int HR2.out 0 p246 q246; obtain rfl : ad245 = ad246 := (by injection e246); have qi246 : (0 < l2.length) = True := eq_true (by omega); (try rw [show ((0 : Int)).toNat = 0 from rfl] at hx246_0); (try rw [Addr.add_zero'] at hx246_0); replace p246 := eq_true p246; replace q246 := eq_true q246; obtain ⟨i016, hi016, _, hsz16, _⟩ := info_parts info5; obtain ⟨A16, hcut16, hA16, hC16⟩ := print_mid_of (P := Try.prog) (Value.int .u8) 0 22 5 .i64 .i64 Try.underlying22 hi016 hsz16 (some ad245) c2 l2 1 (wrap64 ((Int.tmod (wrap64 (rd l2 0)) 128) + 1)) (by omega) (by first | omega | exact of_decide_eq_true (by first | (with_reducible assumption) | assumption)) (of_decide_eq_true (by first | (with_reducible assumption) | assumption)) HC2.out; have HR247 := Aside0.mk (Kd.C_of_reads (h1 := fun _ => rfl) (hA16 _ (Kd.reads_of_C HR2.out))); have HC247 := Aside0.mk hC16; clear hA16 hC16 hi016 hsz16; obtain ⟨xs_, hxs_⟩ : ∃ x_ : List Int, x_ = ((l2.take ((wrap64 ((Int.tmod (wrap64 (rd l2 0)) 128) + 1)) : Int).toNat).drop (1 : Int).toNat) := ⟨_, rfl⟩; have hxt_ : xs_ = ((l2.take ((wrap64 ((Int.tmod (wrap64 (rd l2 0)) 128) + 1)) : Int).toNat).drop 1) := hxs_; rw [← hxs_] at hcut16 HR247 HC247; rw [← hxt_] at A12; clear hxs_ hxt_) | (go_at_call 54; (with_reducible refine (impl_clone_byte.calls _ _ xs_ t248 _ ?side1 ?side2 A12.out).mono ?_); (case side1 => repeat (first | exact HR247.out | (with_reducible refine Kd.C_alloc ?_ _) | (with_reducible refine Kd.C_drewN ?_ _) | (with_reducible refine Kd.C_drew ?_))); (case side2 => exact HC247.out); rintro e w17 ⟨v249, rfl, ho0, hb⟩; have n0_ := Aside0.mk (Kd.R_lower ho0 (below_size (by repeat (first | (with_reducible first | exact HB.out | apply below_alloc | apply pw_below_drewN | apply below_drew1) | exact HB.out)))); have n1_ := Aside0.mk (below_step (by repeat (first | (with_reducible first | exact HB.out | apply below_alloc | apply pw_below_drewN | apply below_drew1) | exact HB.out)) hb); clear HB; have HO250 := n0_; have HB := n1_; clear n0_ n1_; (try clear hb); (try clear hb2); (try clear hk); (try clear hi); (try clear ho0); obtain ⟨Ao18, co18, eo18⟩ := Kd.R_slice HO250.out; subst eo18) | (go_at_call 17; (with_reducible refine (impl_SealOf.calls k a0 a1 _ _ t248 (decide ((rd l2 0) ≥ 128)) t251 _ ?side1 ?side2 A13.out).mono ?_); (case side1 => repeat (first | exact (Kd.R_reads' HO250.out).2.2 | (with_reducible refine Kd.C_alloc ?_ _) | (with_reducible refine Kd.C_drewN ?_ _) | (with_reducible refine Kd.C_drew ?_))); (case side2 => exact (Kd.R_reads' HO250.out).2.1); rintro e w19 ⟨rfl, hb⟩; have n0_ := Aside0.mk (Kd.R_below (by (with_reducible repeat (first | apply Kd.R_alloc | apply Kd.R_drewN | apply Kd.R_drew)); exact HO250.out) hb); have n1_ := Aside0.mk (below_step (by repeat (first | (with_reducible first | exact HB.out | apply below_alloc | apply pw_below_drewN | apply below_drew1) | exact HB.out)) hb); clear HO250; clear HB; have HO250 := n0_; have HB := n1_; clear n0_ n1_; (try clear hb); (try clear hb2); (try clear hk); (try clear hi)) | (go_at_call 55; (with_reducible refine (impl_NumberAt.calls k _ _ l2 (wrap64 ((Int.tmod (wrap64 (rd l2 0)) 128) + 1)) 2 t252 _ ?side1 ?side2 A14.out).mono ?_); (case side1 => repeat (first | exact (Kd.C_below HR2.out HB.out) | (with_reducible refine Kd.C_alloc ?_ _) | (with_reducible refine Kd.C_drewN ?_ _) | (with_reducible refine Kd.C_drew ?_))); (case side2 => exact HC2.out); rintro e w' ⟨rfl, ⟨nd, rfl⟩⟩; (try first | exact ⟨rfl, _, World.drewN_drewN _ _ _⟩ | exact ⟨rfl, _, Eq.trans (World.drewN_drewN _ _ _) (congrArg (World.drewN _) (Nat.add_assoc _ _ _))⟩))))
                  go_ret3
                  exact ⟨_, by first | rfl | (simp [errW_none, errW_some] <;> rfl) | (simp [*, errW_none, errW_some] <;> rfl), by (with_reducible repeat (first | apply Kd.R_alloc | apply Kd.R_drewN | apply Kd.R_drew)); exact HO250.out, by repeat (first | (with_reducible first | exact HB.out | apply below_alloc | apply pw_below_drewN | apply below_drew1) | exact HB.out)⟩
                · rw [if_neg c15] at H
                  have c15b0 : (t251 == t252) = false := beq_eq_false_iff_ne.mpr c15
                  have c15b1 : (t251 != t252) = true := bne_iff_ne.mpr c15
                  simp only [Option.some.injEq, Prod.mk.injEq] at H
                  obtain ⟨rfl, rfl, rfl⟩ := H
                  go_enter Try.func26, Try.ntmps26
                  go_wp2_with (first | (go_at_call 42; (refine (impl_sealOk.calls a0 a1 _ _ ([] : List Int) true _ ?side1 ?side2 A4.out).mono ?_); (case side1 => exact Kd.C_nil _ _); (case side2 => exact Nat.le_refl _); rintro e w' ⟨rfl, ⟨nd, rfl⟩⟩; (try first | exact ⟨rfl, _, World.drewN_drewN _ _ _⟩ | exact ⟨rfl, _, Eq.trans (World.drewN_drewN _ _ _) (congrArg (World.drewN _) (Nat.add_assoc _ _ _))⟩); have p245 : 0 ≤ (0 : Int) := (by omega); have q245 : 0 < (l2.length : Int) := of_decide_eq_true (by first | (with_reducible assumption) | assumption); obtain ⟨ad245, e245, hx245_0⟩ := Kd.at_int HR2.out 0 p245 q245; cases e245; have qi245 : (0 < l2.length) = True := eq_true (by omega); (try rw [show ((0 : Int)).toNat = 0 from rfl] at hx245_0); (try rw [Addr.add_zero'] at hx245_0); replace p245 := eq_true p245; replace q245 := eq_true q245; have p246 : 0 ≤ (0 : Int) := (by omega); have q246 : 0 < (l2.length : Int) := of_decide_eq_true (by first | (with_reducible assumption) | assumption); obtain ⟨ad246, e246, hx246_0⟩ := Kd.at_int HR2.out 0 p246 q246; obtain rfl : ad245 = ad246 := (by injection e246); have qi246 : (0 < l2.length) = True := eq_true (by omega); (try rw [show ((0 : Int)).toNat = 0 from rfl] at hx246_0); (try rw [Addr.add_zero'] at hx246_0); replace p246 := eq_true p246; replace q246 := eq_true q246; obtain ⟨i020, hi020, _, hsz20, _⟩ := info_parts info5; obtain ⟨A20, hcut20, hA20, hC20⟩ := print_mid_of (P := Try.prog) (Value.int .u8) 0 22 5 .i64 .i64 Try.underlying22 hi020 hsz20 (some ad245) c2 l2 1 (wrap64 ((Int.tmod (wrap64 (rd l2 0)) 128) + 1)) (by omega) (by first | omega | exact of_decide_eq_true (by first | (with_reducible assumption) | assumption)) (of_decide_eq_true (by first | (with_reducible assumption) | assumption)) HC2.out; have HR247 := Aside0.mk (Kd.C_of_reads (h1 := fun _ => rfl) (hA20 _ (Kd.reads_of_C HR2.out))); have HC247 := Aside0.mk hC20; clear hA20 hC20 hi020 hsz20; obtain ⟨xs_, hxs_⟩ : ∃ x_ : List Int, x_ = ((l2.take ((wrap64 ((Int.tmod (wrap64 (rd l2 0)) 128) + 1)) : Int).toNat).drop (1 : Int).toNat) := ⟨_, rfl⟩; have hxt_ : xs_ = ((l2.take ((wrap64 ((Int.tmod (wrap64 (rd l2 0)) 128) + 1)) : Int).toNat).drop 1) := hxs_; rw [← hxs_] at hcut20 HR247 HC247; rw [← hxt_] at A12; clear hxs_ hxt_) | (go_at_call 54; (with_reducible refine (impl_clone_byte.calls _ _ xs_ t248 _ ?side1 ?side2 A12.out).mono ?_); (case side1 => repeat (first | exact HR247.out | (with_reducible refine Kd.C_alloc ?_ _) | (with_reducible refine Kd.C_drewN ?_ _) | (with_reducible refine Kd.C_drew ?_))); (case side2 => exact HC247.out); rintro e w21 ⟨v249, rfl, ho0, hb⟩; have n0_ := Aside0.mk (Kd.R_lower ho0 (below_size (by repeat (first | (with_reducible first | exact HB.out | apply below_alloc | apply pw_below_drewN | apply below_drew1) | exact HB.out)))); have n1_ := Aside0.mk (below_step (by repeat (first | (with_reducible first | exact HB.out | apply below_alloc | apply pw_below_drewN | apply below_drew1) | exact HB.out)) hb); clear HB; have HO250 := n0_; have HB := n1_; clear n0_ n1_; (try clear hb); (try clear hb2); (try clear hk); (try clear hi); (try clear ho0); obtain ⟨Ao22, co22, eo22⟩ := Kd.R_slice HO250.out; subst eo22) | (go_at_call 17; (with_reducible refine (impl_SealOf.calls k a0 a1 _ _ t248 (decide ((rd l2 0) ≥ 128)) t251 _ ?side1 ?side2 A13.out).mono ?_); (case side1 => repeat (first | exact (Kd.R_reads' HO250.out).2.2 | (with_reducible refine Kd.C_alloc ?_ _) | (with_reducible refine Kd.C_drewN ?_ _) | (with_reducible refine Kd.C_drew ?_))); (case side2 => exact (Kd.R_reads' HO250.out).2.1); rintro e w23 ⟨rfl, hb⟩; have n0_ := Aside0.mk (Kd.R_below (by (with_reducible repeat (first | apply Kd.R_alloc | apply Kd.R_drewN | apply Kd.R_drew)); exact HO250.out) hb); have n1_ := Aside0.mk (below_step (by repeat (first | (with_reducible first | exact HB.out | apply below_alloc | apply pw_below_drewN | apply below_drew1) | exact HB.out)) hb); clear HO250; clear HB; have HO250 := n0_; have HB := n1_; clear n0_ n1_; (try clear hb); (try clear hb2); (try clear hk); (try clear hi)) | (go_at_call 55; (with_reducible refine (impl_NumberAt.calls k _ _ l2 (wrap64 ((Int.tmod (wrap64 (rd l2 0)) 128) + 1)) 2 t252 _ ?side1 ?side2 A14.out).mono ?_); (case side1 => repeat (first | exact (Kd.C_below HR2.out HB.out) | (with_reducible refine Kd.C_alloc ?_ _) | (with_reducible refine Kd.C_drewN ?_ _) | (with_reducible refine Kd.C_drew ?_))); (case side2 => exact HC2.out); rintro e w' ⟨rfl, ⟨nd, rfl⟩⟩; (try first | exact ⟨rfl, _, World.drewN_drewN _ _ _⟩ | exact ⟨rfl, _, Eq.trans (World.drewN_drewN _ _ _) (congrArg (World.drewN _) (Nat.add_assoc _ _ _))⟩)))
                  repeat (go_quiet (first | (go_at_call 42; (refine (impl_sealOk.calls a0 a1 _ _ ([] : List Int) true _ ?side1 ?side2 A4.out).mono ?_); (case side1 => exact Kd.C_nil _ _); (case side2 => exact Nat.le_refl _); rintro e w' ⟨rfl, ⟨nd, rfl⟩⟩; (try first | exact ⟨rfl, _, World.drewN_drewN _ _ _⟩ | exact ⟨rfl, _, Eq.trans (World.drewN_drewN _ _ _) (congrArg (World.drewN _) (Nat.add_assoc _ _ _))⟩); have p245 : 0 ≤ (0 : Int) := (by omega); have q245 : 0 < (l2.length : Int) := of_decide_eq_true (by first | (with_reducible assumption) | assumption); obtain ⟨ad245, e245, hx245_0⟩ := Kd.at_int HR2.out 0 p245 q245; cases e245; have qi245 : (0 < l2.length) = True := eq_true (by omega); (try rw [show ((0 : Int)).toNat = 0 from rfl] at hx245_0); (try rw [Addr.add_zero'] at hx245_0); replace p245 := eq_true p245; replace q245 := eq_true q245; have p246 : 0 ≤ (0 : Int) := (by omega); have q246 : 0 < (l2.length : Int) := of_decide_eq_true (by first | (with_reducible assumption) | assumption); obtain ⟨ad246, e246, hx246_0⟩ := Kd.at_int HR2.out 0 p246 q246; obtain rfl : ad245 = ad246 := (by injection e246); have qi246 : (0 < l2.length) = True := eq_true (by omega); (try rw [show ((0 : Int)).toNat = 0 from rfl] at hx246_0); (try rw [Addr.add_zero'] at hx246_0); replace p246 := eq_true p246; replace q246 := eq_true q246; obtain ⟨i020, hi020, _, hsz20, _⟩ := info_parts info5; obtain ⟨A20, hcut20, hA20, hC20⟩ := print_mid_of (P := Try.prog) (Value.int .u8) 0 22 5 .i64 .i64 Try.underlying22 hi020 hsz20 (some ad245) c2 l2 1 (wrap64 ((Int.tmod (wrap64 (rd l2 0)) 128) + 1)) (by omega) (by first | omega | exact of_decide_eq_true (by first | (with_reducible assumption) | assumption)) (of_decide_eq_true (by first | (with_reducible assumption) | assumption)) HC2.out; have HR247 := Aside0.mk (Kd.C_of_reads (h1 := fun _ => rfl) (hA20 _ (Kd.reads_of_C HR2.out))); have HC247 := Aside0.mk hC20; clear hA20 hC20 hi020 hsz20; obtain ⟨xs_, hxs_⟩ : ∃ x_ : List Int, x_ = ((l2.take ((wrap64 ((Int.tmod (wrap64 (rd l2 0)) 128) + 1)) : Int).toNat).drop (1 : Int).toNat) := ⟨_, rfl⟩; have hxt_ : xs_ = ((l2.take ((wrap64 ((Int.tmod (wrap64 (rd l2 0)) 128) + 1)) : Int).toNat).drop 1) := hxs_; rw [← hxs_] at hcut20 HR247 HC247; rw [← hxt_] at A12; clear hxs_ hxt_) | (go_at_call 54; (with_reducible refine (impl_clone_byte.calls _ _ xs_ t248 _ ?side1 ?side2 A12.out).mono ?_); (case side1 => repeat (first | exact HR247.out | (with_reducible refine Kd.C_alloc ?_ _) | (with_reducible refine Kd.C_drewN ?_ _) | (with_reducible refine Kd.C_drew ?_))); (case side2 => exact HC247.out); rintro e w21 ⟨v249, rfl, ho0, hb⟩; have n0_ := Aside0.mk (Kd.R_lower ho0 (below_size (by repeat (first | (with_reducible first | exact HB.out | apply below_alloc | apply pw_below_drewN | apply below_drew1) | exact HB.out)))); have n1_ := Aside0.mk (below_step (by repeat (first | (with_reducible first | exact HB.out | apply below_alloc | apply pw_below_drewN | apply below_drew1) | exact HB.out)) hb); clear HB; have HO250 := n0_; have HB := n1_; clear n0_ n1_; (try clear hb); (try clear hb2); (try clear hk); (try clear hi); (try clear ho0); obtain ⟨Ao22, co22, eo22⟩ := Kd.R_slice HO250.out; subst eo22) | (go_at_call 17; (with_reducible refine (impl_SealOf.calls k a0 a1 _ _ t248 (decide ((rd l2 0) ≥ 128)) t251 _ ?side1 ?side2 A13.out).mono ?_); (case side1 => repeat (first | exact (Kd.R_reads' HO250.out).2.2 | (with_reducible refine Kd.C_alloc ?_ _) | (with_reducible refine Kd.C_drewN ?_ _) | (with_reducible refine Kd.C_drew ?_))); (case side2 => exact (Kd.R_reads' HO250.out).2.1); rintro e w23 ⟨rfl, hb⟩; have n0_ := Aside0.mk (Kd.R_below (by (with_reducible repeat (first | apply Kd.R_alloc | apply Kd.R_drewN | apply Kd.R_drew)); exact HO250.out) hb); have n1_ := Aside0.mk (below_step (by repeat (first | (with_reducible first | exact HB.out | apply below_alloc | apply pw_below_drewN | apply below_drew1) | exact HB.out)) hb); clear HO250; clear HB; have HO250 := n0_; have HB := n1_; clear n0_ n1_; (try clear hb); (try clear hb2); (try clear hk); (try clear hi)) | (go_at_call 55; (with_reducible refine (impl_NumberAt.calls k _ _ l2 (wrap64 ((Int.tmod (wrap64 (rd l2 0)) 128) + 1)) 2 t252 _ ?side1 ?side2 A14.out).mono ?_); (case side1 => repeat (first | exact (Kd.C_below HR2.out HB.out) | (with_reducible refine Kd.C_alloc ?_ _) | (with_reducible refine Kd.C_drewN ?_ _) | (with_reducible refine Kd.C_drew ?_))); (case side2 => exact HC2.out); rintro e w' ⟨rfl, ⟨nd, rfl⟩⟩; (try first | exact ⟨rfl, _, World.drewN_drewN _ _ _⟩ | exact ⟨rfl, _, Eq.trans (World.drewN_drewN _ _ _) (congrArg (World.drewN _) (Nat.add_assoc _ _ _))⟩))); try go_wp2_with (first | (go_at_call 42; (refine (impl_sealOk.calls a0 a1 _ _ ([] : List Int) true _ ?side1 ?side2 A4.out).mono ?_); (case side1 => exact Kd.C_nil _ _); (case side2 => exact Nat.le_refl _); rintro e w' ⟨rfl, ⟨nd, rfl⟩⟩; (try first | exact ⟨rfl, _, World.drewN_drewN _ _ _⟩ | exact ⟨rfl, _, Eq.trans (World.drewN_drewN _ _ _) (congrArg (World.drewN _) (Nat.add_assoc _ _ _))⟩); have p245 : 0 ≤ (0 : Int) := (by omega); have q245 : 0 < (l2.length : Int) := of_decide_eq_true (by first | (with_reducible assumption) | assumption); obtain ⟨ad245, e245, hx245_0⟩ := Kd.at_int HR2.out 0 p245 q245; cases e245; have qi245 : (0 < l2.length) = True := eq_true (by omega); (try rw [show ((0 : Int)).toNat = 0 from rfl] at hx245_0); (try rw [Addr.add_zero'] at hx245_0); replace p245 := eq_true p245; replace q245 := eq_true q245; have p246 : 0 ≤ (0 : Int) := (by omega); have q246 : 0 < (l2.length : Int) := of_decide_eq_true (by first | (with_reducible assumption) | assumption); obtain ⟨ad246, e246, hx246_0⟩ := Kd.at_int HR2.out 0 p246 q246; obtain rfl : ad245 = ad246 := (by injection e246); have qi246 : (0 < l2.length) = True := eq_true (by omega); (try rw [show ((0 : Int)).toNat = 0 from rfl] at hx246_0); (try rw [Addr.add_zero'] at hx246_0); replace p246 := eq_true p246; replace q246 := eq_true q246; obtain ⟨i020, hi020, _, hsz20, _⟩ := info_parts info5; obtain ⟨A20, hcut20, hA20, hC20⟩ := print_mid_of (P := Try.prog) (Value.int .u8) 0 22 5 .i64 .i64 Try.underlying22 hi020 hsz20 (some ad245) c2 l2 1 (wrap64 ((Int.tmod (wrap64 (rd l2 0)) 128) + 1)) (by omega) (by first | omega | exact of_decide_eq_true (by first | (with_reducible assumption) | assumption)) (of_decide_eq_true (by first | (with_reducible assumption) | assumption)) HC2.out; have HR247 := Aside0.mk (Kd.C_of_reads (h1 := fun _ => rfl) (hA20 _ (Kd.reads_of_C HR2.out))); have HC247 := Aside0.mk hC20; clear hA20 hC20 hi020 hsz20; obtain ⟨xs_, hxs_⟩ : ∃ x_ : List Int, x_ = ((l2.take ((wrap64 ((Int.tmod (wrap64 (rd l2 0)) 128) + 1)) : Int).toNat).drop (1 : Int).toNat) := ⟨_, rfl⟩; have hxt_ : xs_ = ((l2.take ((wrap64 ((Int.tmod (wrap64 (rd l2 0)) 128) + 1)) : Int).toNat).drop 1) := hxs_; rw [← hxs_] at hcut20 HR247 HC247; rw [← hxt_] at A12; clear hxs_ hxt_) | (go_at_call 54; (with_reducible refine (impl_clone_byte.calls _ _ xs_ t248 _ ?side1 ?side2 A12.out).mono ?_); (case side1 => repeat (first | exact HR247.out | (with_reducible refine Kd.C_alloc ?_ _) | (with_reducible refine Kd.C_drewN ?_ _) | (with_reducible refine Kd.C_drew ?_))); (case side2 => exact HC247.out); rintro e w21 ⟨v249, rfl, ho0, hb⟩; have n0_ := Aside0.mk (Kd.R_lower ho0 (below_size (by repeat (first | (with_reducible first | exact HB.out | apply below_alloc | apply pw_below_drewN | apply below_drew1) | exact HB.out)))); have n1_ := Aside0.mk (below_step (by repeat (first | (with_reducible first | exact HB.out | apply below_alloc | apply pw_below_drewN | apply below_drew1) | exact HB.out)) hb); clear HB; have HO250 := n0_; have HB := n1_; clear n0_ n1_; (try clear hb); (try clear hb2); (try clear hk); (try clear hi); (try clear ho0); obtain ⟨Ao22, co22, eo22⟩ := Kd.R_slice HO250.out; subst eo22) | (go_at_call 17; (with_reducible refine (impl_SealOf.calls k a0 a1 _ _ t248 (decide ((rd l2 0) ≥ 128)) t251 _ ?side1 ?side2 A13.out).mono ?_); (case side1 => repeat (first | exact (Kd.R_reads' HO250.out).2.2 | (with_reducible refine Kd.C_alloc ?_ _) | (with_reducible refine Kd.C_drewN ?_ _) | (with_reducible refine Kd.C_drew ?_))); (case side2 => exact (Kd.R_reads' HO250.out).2.1); rintro e w23 ⟨rfl, hb⟩; have n0_ := Aside0.mk (Kd.R_below (by (with_reducible repeat (first | apply Kd.R_alloc | apply Kd.R_drewN | apply Kd.R_drew)); exact HO250.out) hb); have n1_ := Aside0.mk (below_step (by repeat (first | (with_reducible first | exact HB.out | apply below_alloc | apply pw_below_drewN | apply below_drew1) | exact HB.out)) hb); clear HO250; clear HB; have HO250 := n0_; have HB := n1_; clear n0_ n1_; (try clear hb); (try clear hb2); (try clear hk); (try clear hi)) | (go_at_call 55; (with_reducible refine (impl_NumberAt.calls k _ _ l2 (wrap64 ((Int.tmod (wrap64 (rd l2 0)) 128) + 1)) 2 t252 _ ?side1 ?side2 A14.out).mono ?_); (case side1 => repeat (first | exact (Kd.C_below HR2.out HB.out) | (with_reducible refine Kd.C_alloc ?_ _) | (with_reducible refine Kd.C_drewN ?_ _) | (with_reducible refine Kd.C_drew ?_))); (case side2 => exact HC2.out); rintro e w' ⟨rfl, ⟨nd, rfl⟩⟩; (try first | exact ⟨rfl, _, World.drewN_drewN _ _ _⟩ | exact ⟨rfl, _, Eq.trans (World.drewN_drewN _ _ _) (congrArg (World.drewN _) (Nat.add_assoc _ _ _))⟩))))
                  go_ret3
                  exact ⟨_, by first | rfl | (simp [errW_none, errW_some] <;> rfl) | (simp [*, errW_none, errW_some] <;> rfl), by first | exact Kd.R_nil _ _ _ _ _ | exact Kd.N_nil _ _ _ _ _ | exact Kd.V_nil _ _ _ _ _ | exact Kd.Q_nil _ _ _ _ _ | exact Kd.S_nil _ _ _ _ _, by repeat (first | (with_reducible first | exact HB.out | apply below_alloc | apply pw_below_drewN | apply below_drew1) | exact HB.out)⟩
              · rw [if_neg c11] at H
                exact absurd H (by simp)
            · rw [if_neg c10] at H
              exact absurd H (by simp)
      · rw [if_neg c7] at H
        exact absurd H (by simp)
  · replace c5 := Bool.eq_false_iff.mpr c5
    subst c5
    have H1 : (some (([] : List Int), false, (-1))) = some (r1, r2, r3) := by rw [if_neg (show ¬ (false = true) by decide)] at H; exact H
    clear H
    have H := H1
    clear H1
    simp only [Option.some.injEq, Prod.mk.injEq] at H
    obtain ⟨rfl, rfl, rfl⟩ := H
    go_enter Try.func26, Try.ntmps26
    go_wp2_with (first | (go_at_call 42; (refine (impl_sealOk.calls a0 a1 _ _ ([] : List Int) false _ ?side1 ?side2 A4.out).mono ?_); (case side1 => exact Kd.C_nil _ _); (case side2 => exact Nat.le_refl _); rintro e w' ⟨rfl, ⟨nd, rfl⟩⟩; (try first | exact ⟨rfl, _, World.drewN_drewN _ _ _⟩ | exact ⟨rfl, _, Eq.trans (World.drewN_drewN _ _ _) (congrArg (World.drewN _) (Nat.add_assoc _ _ _))⟩)))
    repeat (go_quiet (first | (go_at_call 42; (refine (impl_sealOk.calls a0 a1 _ _ ([] : List Int) false _ ?side1 ?side2 A4.out).mono ?_); (case side1 => exact Kd.C_nil _ _); (case side2 => exact Nat.le_refl _); rintro e w' ⟨rfl, ⟨nd, rfl⟩⟩; (try first | exact ⟨rfl, _, World.drewN_drewN _ _ _⟩ | exact ⟨rfl, _, Eq.trans (World.drewN_drewN _ _ _) (congrArg (World.drewN _) (Nat.add_assoc _ _ _))⟩))); try go_wp2_with (first | (go_at_call 42; (refine (impl_sealOk.calls a0 a1 _ _ ([] : List Int) false _ ?side1 ?side2 A4.out).mono ?_); (case side1 => exact Kd.C_nil _ _); (case side2 => exact Nat.le_refl _); rintro e w' ⟨rfl, ⟨nd, rfl⟩⟩; (try first | exact ⟨rfl, _, World.drewN_drewN _ _ _⟩ | exact ⟨rfl, _, Eq.trans (World.drewN_drewN _ _ _) (congrArg (World.drewN _) (Nat.add_assoc _ _ _))⟩))))
    go_ret3
    exact ⟨_, by first | rfl | (simp [errW_none, errW_some] <;> rfl) | (simp [*, errW_none, errW_some] <;> rfl), by first | exact Kd.R_nil _ _ _ _ _ | exact Kd.N_nil _ _ _ _ _ | exact Kd.V_nil _ _ _ _ _ | exact Kd.Q_nil _ _ _ _ _ | exact Kd.S_nil _ _ _ _ _, by repeat (first | (with_reducible first | exact HB.out | apply below_alloc | apply pw_below_drewN | apply below_drew1) | exact HB.out)⟩

end Go.Proofs.Ytgabediginlabaa.GFnSealed
