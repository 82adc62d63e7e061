/- What the Go functions that FnKeptAsk reaches come to, walked step by step; there is no condition beyond those each statement names. -/
import Derived.Deep.RegionLaw
import Derived.Lib.SliceRun
import Derived.Test.YtmgnmgobibpjjaaGFnKeptAskx0
import Derived.Test.YtmgnmgobibpjjaaGFnKeptAskx3
import Derived.Test.YtmgnmgobibpjjaaGFnKeptAskx4
import Derived.Test.YtmgnmgobibpjjaaGFnKeptAskx6
namespace Go.Proofs.Ytmgnmgobibpjjaa.GFnKeptAsk
open Go.RowKit Go.Proofs.YtmgnmgobibpjjaaVKeptAsk.PrintWords Go.Proofs.YtmgnmgobibpjjaaVKeptAsk.PrintLast Go.Proofs.YtmgnmgobibpjjaaVKeptAsk.PrintMore
attribute [local go_sem] max2_int min2_int max_two min_two max_three min_three max_four min_four   -- for this text's walks alone
set_option linter.unusedVariables false
set_option linter.unusedSimpArgs false

/-! ### impl_keptOk: function 73 -/
def impl_keptOk.f (k : Nat) (l0 : List (S83)) (l1 : List (S26)) (a2 : ByteArray) (a3 : Int) : Option (Bool) := (impl_KeptOk.f k l0).bind fun t156 => (if t156 = true then ((impl_NamesOk.f k l1).bind fun t157 => (if t157 = true then ((impl_textOk.f k a2).bind fun t158 => (if t158 = true then ((impl_in.f a3 0 900000).bind fun t159 => (some t159)) else (some false))) else (some false))) else (some false))
theorem impl_keptOk.mono : ∀ a0 a1 a2 a3 k, LeO (impl_keptOk.f k a0 a1 a2 a3) (impl_keptOk.f (k + 1) a0 a1 a2 a3) := by
 intro a0 a1 a2 a3 k
 unfold impl_keptOk.f
 repeat' first
   | (with_reducible exact impl_KeptOk.mono _ _)
   | (with_reducible exact impl_NamesOk.mono _ _)
   | (with_reducible exact impl_textOk.mono _ _)
   | (with_reducible exact LeO.refl _)
   | (with_reducible exact LeO.none _)
   | (with_reducible refine LeO.ite ?_ ?_)
   | (with_reducible refine LeO.bind ?_ (fun _ => ?_))
   | exact impl_KeptOk.mono _ _
   | exact impl_NamesOk.mono _ _
   | exact impl_textOk.mono _ _
   | exact LeO.none _
   | refine LeO.ite ?_ ?_
   | refine LeO.bind ?_ (fun _ => ?_)
set_option maxHeartbeats 8000000 in
set_option maxRecDepth 100000 in
theorem impl_keptOk.calls (k : Nat) (A0 : Option Addr) (c0 : Nat) (l0 : List (S83)) (A1 : Option Addr) (c1 : Nat) (l1 : List (S26)) (a2 : ByteArray) (a3 : Int) (r : Bool) (w : World) (hr0 : Kd.C k83 w A0 l0.length l0) (hc0 : l0.length ≤ c0) (hr1 : Kd.C k26 w A1 l1.length l1) (hc1 : l1.length ≤ c1) (h : impl_keptOk.f k l0 l1 a2 a3 = some r) :
  Calls Try.prog 73 #[.slice A0 l0.length c0, .slice A1 l1.length c1, .string a2, .int .i64 a3] w fun e w' => e = .returned (.bool r) ∧ Below w.heap.size w w' := by
 have HR0 := Aside0.mk hr0
 have HC0 := Aside0.mk hc0
 clear hr0 hc0
 have HR1 := Aside0.mk hr1
 have HC1 := Aside0.mk hc1
 clear hr1 hc1
 have HB := Aside0.mk (Below.refl w.heap.size w)
 have H : ((impl_KeptOk.f k l0).bind fun t156 => (if t156 = true then ((impl_NamesOk.f k l1).bind fun t157 => (if t157 = true then ((impl_textOk.f k a2).bind fun t158 => (if t158 = true then ((impl_in.f a3 0 900000).bind fun t159 => (some t159)) else (some false))) else (some false))) else (some false))) = some r := h
 clear h
 replace H := Option.bind_eq_some_iff.mp H
 obtain ⟨t156, A50, H⟩ := H
 have A5 := Aside0.mk A50
 clear A50
 by_cases c6 : t156 = true
 ·subst c6
  rw [if_pos rfl] at H
  replace H := Option.bind_eq_some_iff.mp H
  obtain ⟨t157, A70, H⟩ := H
  have A7 := Aside0.mk A70
  clear A70
  by_cases c8 : t157 = true
  ·subst c8
   rw [if_pos rfl] at H
   replace H := Option.bind_eq_some_iff.mp H
   obtain ⟨t158, A90, H⟩ := H
   have A9 := Aside0.mk A90
   clear A90
   by_cases c10 : t158 = true
   ·subst c10
    rw [if_pos rfl] at H
    replace H := Option.bind_eq_some_iff.mp H
    obtain ⟨t159, A110, H⟩ := H
    have A11 := Aside0.mk A110
    clear A110
    obtain rfl := Option.some.inj H
    go_enter Try.func73, Try.ntmps73
    go_wp2_with (first | ((with_reducible refine gate_callee (f := 36) rfl ?_); refine goesL_ (some 10) rfl rfl Try.func36 (z_0) rfl #[.slice A0 l0.length c0] rfl (z_14) ?_; (with_reducible refine (impl_KeptOk.calls k _ _ l0 true _ ?side1 ?side2 A5.out).mono ?_); (case side1 => exact z_31); (case side2 => exact HC0.out); rintro e w12 ⟨rfl, hb⟩; refine ⟨_, rfl, ?_⟩; have n0_ := Aside0.mk (below_step (z_8) hb); clear HB; have HB := n0_; clear n0_; (try clear hb); (try clear hb2); (try clear hk); (try clear hi)) | (go_at_call 27; (with_reducible refine (impl_NamesOk.calls k _ _ l1 true _ ?side1 ?side2 A7.out).mono ?_); (case side1 => exact z_32); (case side2 => exact HC1.out); rintro e w13 ⟨rfl, hb⟩; have n0_ := Aside0.mk (below_step (z_8) hb); clear HB; have HB := n0_; clear n0_; (try clear hb); (try clear hb2); (try clear hk); (try clear hi)) | (go_at_call 56; (with_reducible refine (impl_textOk.calls k a2 true _ A9.out).mono ?_); rintro e w14 ⟨rfl, hb⟩; have n0_ := Aside0.mk (below_step (z_8) hb); clear HB; have HB := n0_; clear n0_; (try clear hb); (try clear hb2); (try clear hk); (try clear hi)) | (go_at_call 57; (with_reducible refine (impl_in.calls a3 0 900000 t159 _ A11.out).mono ?_); rintro e w' ⟨rfl, ⟨nd, rfl⟩⟩))
    go_ret
    exact ⟨z_13, z_8⟩
   ·replace c10 := Bool.eq_false_iff.mpr c10
    subst c10
    rw [if_neg (show ¬ (false = true) by decide)] at H
    obtain rfl := Option.some.inj H
    go_enter Try.func73, Try.ntmps73
    go_wp2_with (first | ((with_reducible refine gate_callee (f := 36) rfl ?_); refine goesL_ (some 10) rfl rfl Try.func36 (z_0) rfl #[.slice A0 l0.length c0] rfl (z_14) ?_; (with_reducible refine (impl_KeptOk.calls k _ _ l0 true _ ?side1 ?side2 A5.out).mono ?_); (case side1 => exact z_31); (case side2 => exact HC0.out); rintro e w15 ⟨rfl, hb⟩; refine ⟨_, rfl, ?_⟩; have n0_ := Aside0.mk (below_step (z_8) hb); clear HB; have HB := n0_; clear n0_; (try clear hb); (try clear hb2); (try clear hk); (try clear hi)) | (go_at_call 27; (with_reducible refine (impl_NamesOk.calls k _ _ l1 true _ ?side1 ?side2 A7.out).mono ?_); (case side1 => exact z_32); (case side2 => exact HC1.out); rintro e w16 ⟨rfl, hb⟩; have n0_ := Aside0.mk (below_step (z_8) hb); clear HB; have HB := n0_; clear n0_; (try clear hb); (try clear hb2); (try clear hk); (try clear hi)) | (go_at_call 56; (with_reducible refine (impl_textOk.calls k a2 false _ A9.out).mono ?_); rintro e w17 ⟨rfl, hb⟩; have n0_ := Aside0.mk (below_step (z_8) hb); clear HB; have HB := n0_; clear n0_; (try clear hb); (try clear hb2); (try clear hk); (try clear hi)))
    go_ret
    exact ⟨z_13, z_8⟩
  ·replace c8 := Bool.eq_false_iff.mpr c8
   subst c8
   rw [if_neg (show ¬ (false = true) by decide)] at H
   obtain rfl := Option.some.inj H
   go_enter Try.func73, Try.ntmps73
   go_wp2_with (first | ((with_reducible refine gate_callee (f := 36) rfl ?_); refine goesL_ (some 10) rfl rfl Try.func36 (z_0) rfl #[.slice A0 l0.length c0] rfl (z_14) ?_; (with_reducible refine (impl_KeptOk.calls k _ _ l0 true _ ?side1 ?side2 A5.out).mono ?_); (case side1 => exact z_31); (case side2 => exact HC0.out); rintro e w18 ⟨rfl, hb⟩; refine ⟨_, rfl, ?_⟩; have n0_ := Aside0.mk (below_step (z_8) hb); clear HB; have HB := n0_; clear n0_; (try clear hb); (try clear hb2); (try clear hk); (try clear hi)) | (go_at_call 27; (with_reducible refine (impl_NamesOk.calls k _ _ l1 false _ ?side1 ?side2 A7.out).mono ?_); (case side1 => exact z_32); (case side2 => exact HC1.out); rintro e w19 ⟨rfl, hb⟩; have n0_ := Aside0.mk (below_step (z_8) hb); clear HB; have HB := n0_; clear n0_; (try clear hb); (try clear hb2); (try clear hk); (try clear hi)))
   go_ret
   exact ⟨z_13, z_8⟩
 ·replace c6 := Bool.eq_false_iff.mpr c6
  subst c6
  rw [if_neg (show ¬ (false = true) by decide)] at H
  obtain rfl := Option.some.inj H
  go_enter Try.func73, Try.ntmps73
  go_wp2_with (first | ((with_reducible refine gate_callee (f := 36) rfl ?_); refine goesL_ (some 10) rfl rfl Try.func36 (z_0) rfl #[.slice A0 l0.length c0] rfl (z_14) ?_; (with_reducible refine (impl_KeptOk.calls k _ _ l0 false _ ?side1 ?side2 A5.out).mono ?_); (case side1 => exact z_31); (case side2 => exact HC0.out); rintro e w20 ⟨rfl, hb⟩; refine ⟨_, rfl, ?_⟩; have n0_ := Aside0.mk (below_step (z_8) hb); clear HB; have HB := n0_; clear n0_; (try clear hb); (try clear hb2); (try clear hk); (try clear hi)))
  go_ret
  exact ⟨z_13, z_8⟩

/-! ### slices_Clip_86: function 86 -/
set_option maxHeartbeats 8000000 in
set_option maxRecDepth 100000 in
theorem slices_Clip_86.calls (A : Option Addr) (n c : Nat) (w : World) (hn : n ≤ c) (hm : n ≤ 9223372036854775807) :
  Calls Try.prog 86 #[.slice A n c] w fun e w' => e = .returned (.slice A n n) ∧ w' = w := by
 go_enter Try.func86, Try.ntmps86
 go_wp2
 go_ret
 exact ⟨rfl, rfl⟩

/-! ### impl_Kept_75: function 75 -/
def impl_Kept_75.f (l0 : List (S83)) : Option ((List (S83))) := if (l0.length : Int) = 0 then (some ([] : List (S83))) else ((some (([] : List (S83)) : List (S83))).bind fun y160 => (if y160.length + l0.length < 2199023255552 then (some (y160 ++ l0)) else (none)))
set_option maxHeartbeats 8000000 in
set_option maxRecDepth 100000 in
theorem impl_Kept_75.calls (A0 : Option Addr) (c0 : Nat) (l0 : List (S83)) (r : List (S83)) (w : World) (hr0 : Kd.C k83 w A0 l0.length l0) (hc0 : l0.length ≤ c0) (h : impl_Kept_75.f l0 = some r) :
  Calls Try.prog 75 #[.slice A0 l0.length c0] w fun e w' => ∃ v0_ : Value, e = .returned (v0_) ∧ Kd.R k83 83 w' w.heap.size (fun _ => True) v0_ r ∧ Below w.heap.size w w' := by
 have HR0 := Aside0.mk hr0
 have HC0 := Aside0.mk hc0
 clear hr0 hc0
 have HB := Aside0.mk (Below.refl w.heap.size w)
 have H : (if (l0.length : Int) = 0 then (some ([] : List (S83))) else ((some (([] : List (S83)) : List (S83))).bind fun y160 => (if y160.length + l0.length < 2199023255552 then (some (y160 ++ l0)) else (none)))) = some r := h
 clear h
 by_cases c2 : (l0.length : Int) = 0
 ·rw [if_pos c2] at H
  have c2b0 : ((l0.length : Int) == 0) = true := beq_iff_eq.mpr c2
  have c2b1 : ((l0.length : Int) != 0) = false := bne_eq_false_iff_eq.mpr c2
  clear c2
  obtain rfl := Option.some.inj H
  go_enter Try.func75, Try.ntmps75
  go_wp2
  go_ret
  exact ⟨_, z_13, z_16, z_8⟩
 ·rw [if_neg c2] at H
  have c2b0 : ((l0.length : Int) == 0) = false := beq_eq_false_iff_ne.mpr c2
  have c2b1 : ((l0.length : Int) != 0) = true := bne_iff_ne.mpr c2
  have c2b2 : ¬ (l0 = []) := fun h_ => c2 (by rw [h_]; rfl)
  obtain ⟨y160, hy160⟩ : ∃ y_ : List (S83), y_ = (([] : List (S83))) := ⟨_, rfl⟩
  replace H : (if y160.length + l0.length < 2199023255552 then (some (y160 ++ l0)) else (none)) = some r := by first | (rw [hy160]; with_reducible exact H) | (have H2_ := (Option.bind_some _ _).symm.trans H; rw [hy160]; with_reducible exact H2_) | (have H2_ := (Option.bind_some _ _).symm.trans H; with_reducible exact H2_) | with_reducible exact H | (rw [hy160]; exact H) | exact H
  have Ny160 := Aside0.mk hy160
  clear hy160
  by_cases c3 : y160.length + l0.length < 2199023255552
  ·rw [if_pos c3] at H
   have LMc3 := Aside0.mk c3
   clear c3
   obtain ⟨y163, hy163⟩ : ∃ y_ : List (S83), y_ = (y160 ++ l0) := ⟨_, rfl⟩
   replace H : (some y163) = some r := by first | (rw [hy163]; with_reducible exact H) | (have H2_ := (Option.bind_some _ _).symm.trans H; rw [hy163]; with_reducible exact H2_) | (have H2_ := (Option.bind_some _ _).symm.trans H; with_reducible exact H2_) | with_reducible exact H | (rw [hy163]; exact H) | exact H
   have Ny163 := Aside0.mk hy163
   clear hy163
   obtain rfl := Option.some.inj H
   have HO162 := Aside0.mk (show Kd.R k83 83 w w.heap.size (fun _ => True) (.slice none 0 0) y160 by rw [Ny160.out]; exact Kd.R_nil _ _ _ _ _)
   have HL63_ := Aside0.mk (show y163.length ≤ 9223372036854775807 by rw [Ny163.out, List.length_append]; have := LMc3.out; omega)
   go_enter Try.func75, Try.ntmps75
   go_wp2_with (first | ((with_reducible refine gate_builtin (b := .append) (xs := #[.const (.slice none 0 0), .tmp 6]) rfl ?_); at_builtin; refine Kd.R_append_rows k83 (w0 := w) w.heap.size rfl (.const (.slice none 0 0)) (.tmp 6) 48 83 (.agg #[(.string ⟨#[]⟩), (.int .i64 0), (.int .i64 0), (.string ⟨#[]⟩), (.int .i64 0), (.int .i64 0)]) 64 rfl Try.underlying48 info83 rfl (z_5) (z_6) (.slice none 0 0) y160 l0 _ _ _ (fun _ => True) (fun _ => False) rfl rfl ?aO ?aR (fun _ _ h => h) (fun _ h => h.elim) ?aF ?aB ?aS ?aL ?_; (case aR => exact z_33); (case aB => exact z_18); (case aF => exact z_34); (case aO => exact (by (with_reducible repeat (first | apply Kd.R_alloc | apply Kd.R_drewN | apply Kd.R_drew)); exact HO162.out)); (case aS => exact z_19); (case aL => have := LMc3.out; omega); intro v164 w6 ho hb hg hat; rw [← Ny163.out] at ho; have n0_ := Aside0.mk (hb); have n1_ := Aside0.mk (ho); clear HB; clear HO162; have HB := n0_; have HO165 := n1_; clear n0_ n1_; clear ho hb hg hat; obtain ⟨Ax_, cx_, ex_⟩ := Kd.R_slice HO165.out; subst ex_; have HLx_ := Aside0.mk (Kd.R_le HO165.out)) | (go_at_call 86; (with_reducible refine (slices_Clip_86.calls _ _ _ _ HLx_.out HL63_.out).mono ?_); rintro e w' ⟨rfl, hw_⟩; subst hw_))
   go_ret
   exact ⟨_, z_13, by (with_reducible repeat (first | apply Kd.R_alloc | apply Kd.R_drewN | apply Kd.R_drew)); exact Kd.R_clip HO165.out, z_8⟩
  ·rw [if_neg c3] at H
   exact absurd H (z_12)

/-! ### impl_Kept_84: function 84 -/
def impl_Kept_84.f (l0 : List (S83)) : Option ((List (S83))) := (some (([] : List (S83)) : List (S83))).bind fun y166 => (if y166.length + l0.length < 2199023255552 then (some (y166 ++ l0)) else (none))
set_option maxHeartbeats 8000000 in
set_option maxRecDepth 100000 in
theorem impl_Kept_84.calls (A0 : Option Addr) (c0 : Nat) (l0 : List (S83)) (r : List (S83)) (w : World) (hr0 : Kd.C k83 w A0 l0.length l0) (hc0 : l0.length ≤ c0) (h : impl_Kept_84.f l0 = some r) :
  Calls Try.prog 84 #[.slice A0 l0.length c0] w fun e w' => ∃ v0_ : Value, e = .returned (v0_) ∧ Kd.R k83 83 w' w.heap.size (fun _ => True) v0_ r ∧ Below w.heap.size w w' := by
 have HR0 := Aside0.mk hr0
 have HC0 := Aside0.mk hc0
 clear hr0 hc0
 have HB := Aside0.mk (Below.refl w.heap.size w)
 have H : ((some (([] : List (S83)) : List (S83))).bind fun y166 => (if y166.length + l0.length < 2199023255552 then (some (y166 ++ l0)) else (none))) = some r := h
 clear h
 obtain ⟨y166, hy166⟩ : ∃ y_ : List (S83), y_ = (([] : List (S83))) := ⟨_, rfl⟩
 replace H : (if y166.length + l0.length < 2199023255552 then (some (y166 ++ l0)) else (none)) = some r := by first | (rw [hy166]; with_reducible exact H) | (have H2_ := (Option.bind_some _ _).symm.trans H; rw [hy166]; with_reducible exact H2_) | (have H2_ := (Option.bind_some _ _).symm.trans H; with_reducible exact H2_) | with_reducible exact H | (rw [hy166]; exact H) | exact H
 have Ny166 := Aside0.mk hy166
 clear hy166
 by_cases c2 : y166.length + l0.length < 2199023255552
 ·rw [if_pos c2] at H
  have LMc2 := Aside0.mk c2
  clear c2
  obtain ⟨y169, hy169⟩ : ∃ y_ : List (S83), y_ = (y166 ++ l0) := ⟨_, rfl⟩
  replace H : (some y169) = some r := by first | (rw [hy169]; with_reducible exact H) | (have H2_ := (Option.bind_some _ _).symm.trans H; rw [hy169]; with_reducible exact H2_) | (have H2_ := (Option.bind_some _ _).symm.trans H; with_reducible exact H2_) | with_reducible exact H | (rw [hy169]; exact H) | exact H
  have Ny169 := Aside0.mk hy169
  clear hy169
  obtain rfl := Option.some.inj H
  cases A0 with
  | none =>
   have e0_ : l0 = [] := by
    rcases Nat.eq_zero_or_pos l0.length with h0 | h0
    ·exact List.eq_nil_of_length_eq_zero h0
    ·obtain ⟨_, h1, _⟩ := HR0.out.2.2 h0
     cases h1
   have e1_ : y169 = [] := by rw [Ny169.out, Ny166.out, e0_]; rfl
   subst e0_
   have hq_ : ∀ w, (binOp .eql 48 (.slice none 0 c0) (.slice none 0 0)).run Try.prog w = .ok (.bool true) w := fun w => Lib.run_eql_slice_nil w 48 83 none _ _ _ _ Try.underlying48
   go_enter Try.func84, Try.ntmps84
   go_wp2
   go_ret
   exact ⟨_, rfl, by first | exact Kd.R_nil _ _ _ _ _ | (rw [e1_]; exact Kd.R_nil _ _ _ _ _), HB.out⟩
  | some ad =>
   have hq_ : ∀ w, (binOp .eql 48 (.slice (some ad) l0.length c0) (.slice none 0 0)).run Try.prog w = .ok (.bool false) w := fun w => Lib.run_eql_slice_nil w 48 83 (some ad) _ _ _ _ Try.underlying48
   go_enter Try.func84, Try.ntmps84
   go_wp2_with (first | ((with_reducible refine gate_dst (N := 5) rfl ?_); refine Kd.R_lit k83 _ 83 ?hg (N := 5) ?hd (xs := ([] : List (S83))) (inner := []) (ok := fun _ => True) (okp := fun _ => True) ?hr ?hp (fun _ hk => hk) trivial (Below.refl _ _) (Nat.le_refl _) (z_12) ?_; (case hd => rfl); (case hg => rfl); (case hr => exact z_9); (case hp => exact (Reps.none _ _)); intro v167 w3 ho4 hb hg_ hnew_; clear hg_ hnew_; (first | rw [← Ny166.out] at ho4 | (simp only [Int.reduceToNat] at ho4; rw [← Ny166.out] at ho4)); have n0_ := Aside0.mk (Kd.R_lower ho4 (below_size (z_8))); have n1_ := Aside0.mk (below_step (z_8) hb); clear HB; have HO168 := n0_; have HB := n1_; clear n0_ n1_; clear hb ho4) | ((with_reducible refine gate_builtin (b := .append) (xs := #[.tmp 5, .tmp 6]) rfl ?_); at_builtin; refine Kd.R_append_rows k83 (w0 := w) w.heap.size rfl (.tmp 5) (.tmp 6) 48 83 (.agg #[(.string ⟨#[]⟩), (.int .i64 0), (.int .i64 0), (.string ⟨#[]⟩), (.int .i64 0), (.int .i64 0)]) 64 rfl Try.underlying48 info83 rfl (z_5) (z_6) v167 y166 l0 _ _ _ (fun _ => True) (fun _ => False) rfl rfl ?aO ?aR (fun _ _ h => h) (fun _ h => h.elim) ?aF ?aB ?aS ?aL ?_; (case aR => exact z_33); (case aB => exact z_18); (case aF => exact z_34); (case aO => exact (by (with_reducible repeat (first | apply Kd.R_alloc | apply Kd.R_drewN | apply Kd.R_drew)); exact HO168.out)); (case aS => exact z_19); (case aL => have := LMc2.out; omega); intro v170 w5 ho hb hg hat; rw [← Ny169.out] at ho; have n0_ := Aside0.mk (hb); have n1_ := Aside0.mk (ho); clear HB; clear HO168; have HB := n0_; have HO171 := n1_; clear n0_ n1_; clear ho hb hg hat))
   go_ret
   exact ⟨_, z_13, by (with_reducible repeat (first | apply Kd.R_alloc | apply Kd.R_drewN | apply Kd.R_drew)); exact HO171.out, z_8⟩
 ·rw [if_neg c2] at H
  exact absurd H (z_12)

/-! ### impl_Kept_85: function 85 -/
mutual
def impl_Kept_85.j0 : Nat → List (S83) → Int → Option ((List (S83)))
 | 0, _, _ => none
 | k + 1, x0, x1 => if 0 ≤ x1 then (if x1 < (x0.length : Int) then (impl_Kept_85.l0 k x0 x1) else (none)) else (none)
def impl_Kept_85.l0 : Nat → List (S83) → Int → Option ((List (S83)))
 | 0, _, _ => none
 | k + 1, x0, x8 => if (wrap64 (x8 + 1)) < (x0.length : Int) then (if 0 ≤ (wrap64 (x8 + 1)) then (if 0 ≤ x8 then (if x8 < (x0.length : Int) then (impl_Kept_85.l0 k (x0.set (x8 : Int).toNat (⟨(⟨(rd_T83 x0 (wrap64 (x8 + 1))).f0.f0, (rd_T83 x0 (wrap64 (x8 + 1))).f0.f1, (rd_T83 x0 (wrap64 (x8 + 1))).f0.f2, (rd_T83 x0 (wrap64 (x8 + 1))).f0.f3, (rd_T83 x0 (wrap64 (x8 + 1))).f0.f4⟩ : S26), (rd_T83 x0 (wrap64 (x8 + 1))).f1⟩ : S83)) (wrap64 (x8 + 1))) else (none)) else (none)) else (none)) else (if 0 ≤ (wrap64 ((x0.length : Int) - 1)) then (if (wrap64 ((x0.length : Int) - 1)) ≤ (x0.length : Int) then (some (x0.take ((wrap64 ((x0.length : Int) - 1)) : Int).toNat)) else (none)) else (none))
end
def impl_Kept_85.f (k : Nat) (l0 : List (S83)) (a1 : Int) (a2 : Int) : Option ((List (S83))) := if a2 = (wrap64 (a1 + 1)) then (impl_Kept_85.j0 k l0 a1) else (if 1 < ((([0] : List Int)).length : Int) then (impl_Kept_85.j0 k l0 a1) else (none))
theorem impl_Kept_85.mono_l : ∀ k, (∀ y0 y1, LeO (impl_Kept_85.j0 k y0 y1) (impl_Kept_85.j0 (k + 1) y0 y1)) ∧ (∀ y0 y1, LeO (impl_Kept_85.l0 k y0 y1) (impl_Kept_85.l0 (k + 1) y0 y1))
 | 0 => ⟨fun _ _ r h => by simp [impl_Kept_85.j0] at h, fun _ _ r h => by simp [impl_Kept_85.l0] at h⟩
 | k + 1 => by
  obtain ⟨ih0, ih1⟩ := impl_Kept_85.mono_l k
  refine ⟨?_, ?_⟩
  ·intro y0 y1
   unfold impl_Kept_85.j0
   repeat' first
   | (with_reducible exact ih0 _ _)
   | (with_reducible exact ih1 _ _)
   | (with_reducible exact LeO.refl _)
   | (with_reducible exact LeO.none _)
   | (with_reducible refine LeO.ite ?_ ?_)
   | (with_reducible refine LeO.bind ?_ (fun _ => ?_))
   | exact ih0 _ _
   | exact ih1 _ _
   | exact LeO.none _
   | refine LeO.ite ?_ ?_
   | refine LeO.bind ?_ (fun _ => ?_)
  ·intro y0 y1
   unfold impl_Kept_85.l0
   repeat' first
   | (with_reducible exact ih0 _ _)
   | (with_reducible exact ih1 _ _)
   | (with_reducible exact LeO.refl _)
   | (with_reducible exact LeO.none _)
   | (with_reducible refine LeO.ite ?_ ?_)
   | (with_reducible refine LeO.bind ?_ (fun _ => ?_))
   | exact ih0 _ _
   | exact ih1 _ _
   | exact LeO.none _
   | refine LeO.ite ?_ ?_
   | refine LeO.bind ?_ (fun _ => ?_)
theorem impl_Kept_85.mono : ∀ a0 a1 a2 k, LeO (impl_Kept_85.f k a0 a1 a2) (impl_Kept_85.f (k + 1) a0 a1 a2) := by
 intro a0 a1 a2 k
 obtain ⟨ih0, ih1⟩ := impl_Kept_85.mono_l k
 unfold impl_Kept_85.f
 repeat' first
   | (with_reducible exact ih0 _ _)
   | (with_reducible exact ih1 _ _)
   | (with_reducible exact LeO.refl _)
   | (with_reducible exact LeO.none _)
   | (with_reducible refine LeO.ite ?_ ?_)
   | (with_reducible refine LeO.bind ?_ (fun _ => ?_))
   | exact ih0 _ _
   | exact ih1 _ _
   | exact LeO.none _
   | refine LeO.ite ?_ ?_
   | refine LeO.bind ?_ (fun _ => ?_)
theorem del_tells : ∀ (k : Nat) (x : List S83) (j : Nat) (r : List S83), j < x.length → x.length ≤ 9223372036854775807 → impl_Kept_85.l0 k x j = some r → r = x.take j ++ x.drop (j + 1) := by
 intro k
 induction k with
 | zero => intro x j r _ _ h; simp [impl_Kept_85.l0] at h
 | succ k ih =>
  intro x j r hj hm h
  have e : wrap64 ((j : Int) + 1) = ((j + 1 : Nat) : Int) := by unfold wrap64; omega
  simp only [impl_Kept_85.l0] at h
  rw [e] at h
  by_cases c : ((j + 1 : Nat) : Int) < (x.length : Int)
  ·rw [if_pos c, if_pos (z_6), if_pos (z_6), if_pos (z_6)] at h
   have h2 := ih _ (j + 1) r (by rw [List.length_set]; omega) (by rw [List.length_set]; exact hm) h
   have hj1 : j + 1 < x.length := z_6
   have hv : rd_T83 x ((j + 1 : Nat) : Int) = x[j + 1] := by unfold rd_T83; rw [Int.toNat_natCast, List.getD_eq_getElem?_getD, List.getElem?_eq_getElem hj1]; rfl
   have h3 : x.drop (j + 1) = x[j + 1] :: x.drop (j + 1 + 1) := List.drop_eq_getElem_cons hj1
   have hl : (x.take j).length = j := by rw [List.length_take]; omega
   rw [h2, Int.toNat_natCast, List.set_eq_take_append_cons_drop, if_pos hj, List.take_append, List.drop_append, hl, h3, hv, List.take_of_length_le (z_6 : (x.take j).length ≤ j + 1), List.drop_of_length_le (z_6 : (x.take j).length ≤ j + 1 + 1)]
   have e1 : j + 1 - j = 1 := z_6
   have e2 : j + 1 + 1 - j = 2 := z_6
   rw [e1, e2]
   simp
   exact h3.symm
  ·rw [if_neg c] at h
   have e3 : wrap64 ((x.length : Int) - 1) = (j : Int) := by unfold wrap64; omega
   rw [e3, if_pos (z_6), if_pos (z_6), Int.toNat_natCast] at h
   rw [← Option.some.inj h, List.drop_of_length_le (z_6), List.append_nil]
theorem del_f {k : Nat} {x r : List S83} {a1 a2 : Int} (hm : x.length ≤ 9223372036854775807) (h : impl_Kept_85.f k x a1 a2 = some r) : ∃ j : Nat, a1 = j ∧ a2 = ((j + 1 : Nat) : Int) ∧ j < x.length ∧ r = x.take j ++ x.drop (j + 1) := by
 unfold impl_Kept_85.f at h
 by_cases c : a2 = wrap64 (a1 + 1)
 ·rw [if_pos c] at h
  cases k with
  | zero => exact absurd h (by simp [impl_Kept_85.j0])
  | succ k =>
   simp only [impl_Kept_85.j0] at h
   by_cases c1 : 0 ≤ a1
   ·rw [if_pos c1] at h
    by_cases c2 : a1 < (x.length : Int)
    ·rw [if_pos c2] at h
     obtain ⟨j, rfl⟩ := Int.eq_ofNat_of_zero_le c1
     exact ⟨j, rfl, by rw [c]; unfold wrap64; omega, z_6, del_tells k x j r (z_6) hm h⟩
    ·rw [if_neg c2] at h; exact absurd h (z_12)
   ·rw [if_neg c1] at h; exact absurd h (z_12)
 ·rw [if_neg c] at h
  rw [if_neg (z_12)] at h
  exact absurd h (z_12)
set_option maxHeartbeats 8000000 in
set_option maxRecDepth 100000 in
theorem impl_Kept_85.calls (k : Nat) (P0_ : Nat → Prop) (u9000_ : Value) (l0 : List (S83)) (a1 : Int) (a2 : Int) (r : List (S83)) (w0 w : World) (hB : Below w0.heap.size w0 w) (ho0 : Kd.R k83 83 w w0.heap.size P0_ u9000_ l0) (h : impl_Kept_85.f k l0 a1 a2 = some r) :
  Calls Try.prog 85 #[u9000_, .int .i64 a1, .int .i64 a2] w fun e w' => ∃ v0_ : Value, e = .returned (v0_) ∧ Kd.R k83 83 w' w0.heap.size (fun k_ => (P0_ k_ ∨ w.heap.size ≤ k_)) v0_ r ∧ Below w0.heap.size w0 w' ∧ Kept w w' (fun k_ => P0_ k_) := by
 obtain ⟨hok, inner, ho, hr⟩ := ho0
 have hm : l0.length ≤ 9223372036854775807 := by
  rcases ho.2 with ⟨_, h0⟩ | ⟨_, _, cur, _, _, hg, h1, h2, _⟩
  ·omega
  ·simp only [maxLen] at h2; omega
 obtain ⟨i, rfl, rfl, hi, rfl⟩ := del_f hm h
 clear h
 obtain ⟨g, cap, rfl, _, hgl⟩ := ho.form (z_6)
 obtain ⟨cur, hg, hbg, hnc, hcm, hcs, ht⟩ := ho.block
 have hs6 : (k83).sz = 6 := rfl
 rw [hs6] at hcs ht
 obtain ⟨n, hn⟩ : ∃ n, n = l0.length := ⟨_, rfl⟩
 have hil : inner.length = n * 6 := by rw [ho.1, hs6, hn]
 obtain ⟨news, hnews⟩ : ∃ news, news = inner.drop ((i + 1) * 6) := ⟨_, rfl⟩
 have hnl : news.length = (n - (i + 1)) * 6 := by rw [hnews, List.length_drop, hil]; omega
 have hcell : ∀ q u, inner[q]? = some u → w.cell? ⟨g, q, none⟩ = some u := by
  intro q u hu
  have hq : q < inner.length := (List.getElem?_eq_some_iff.1 hu).1
  rw [ho.cellAt q (by rw [hs6, ← hn]; omega)]; exact hu
 have hsome : ∀ q, q < n * 6 → (w.cell? ⟨g, q, none⟩).isSome = true ∧ w.frozen? ⟨g, q, none⟩ = false := by
  intro q hq
  refine ⟨?_, ho.frozenAt q⟩
  rw [hcell q (inner[q]'(z_6)) (List.getElem?_eq_getElem (z_6))]; rfl
 -- the cells that are moved to the left, and where they lie
 obtain ⟨A, hA, hsrc⟩ : ∃ A : Addr, (if cap = i + 1 then some (⟨g, 0, none⟩ : Addr) else some ⟨g, (i + 1) * 6, none⟩) = some A ∧ (∀ t u, news[t]? = some u → w.drew.cell? (A.add t) = some u) := by
  by_cases h : cap = i + 1
  ·refine ⟨⟨g, 0, none⟩, by simp [h], fun t u hu => ?_⟩
   have h0 : news.length = 0 := by rw [hnl]; omega
   rw [List.length_eq_zero_iff.1 h0] at hu
   simp at hu
  ·refine ⟨⟨g, (i + 1) * 6, none⟩, by simp [h], fun t u hu => ?_⟩
   rw [hnews, List.getElem?_drop] at hu
   rw [Addr.add_lit]
   exact hcell _ _ hu
 have hone : ∀ u ∈ inner, u.oneCell' = true := by
  intro u hu
  exact Kd.reps_one hr (z_5) (fun p c hp => k83.K_one (k83.K_of_M hp)) u hu
 -- the world behind the append
 obtain ⟨W1, hW1⟩ : ∃ W1, W1 = w.drew.setCells g (0 + i * 6) news := ⟨_, rfl⟩
 have hfit : i * 6 + news.length ≤ cur.size := by
  have h1 : cap * 6 ≤ cur.size := hcs
  omega
 obtain ⟨cur1, hg1, hs1, hc1⟩ := setCells_row news (0 + i * 6) w.drew cur hg (z_6)
 rw [← hW1] at hg1
 obtain ⟨o, ho_⟩ : ∃ o, o = (i + (n - (i + 1))) * 6 := ⟨_, rfl⟩
 obtain ⟨W2, hW2⟩ : ∃ W2, W2 = W1.setCells g o [.string ⟨#[]⟩, .int .i64 0, .int .i64 0, .string ⟨#[]⟩, .int .i64 0, .int .i64 0] := ⟨_, rfl⟩
 have hcl : ∀ ty, (Builtin.clear_ #[48] ty #[.slice (some ⟨g, o, none⟩) (n - (i + (n - (i + 1)))) (cap - (i + (n - (i + 1))))]).run Try.prog W1 = .ok (.tuple #[]) W2 := by
  intro ty
  have hone1 : n - (i + (n - (i + 1))) = 1 := z_6
  rw [hone1]
  have hst := run_storeCells_cells (P := Try.prog) g o [.string ⟨#[]⟩, .int .i64 0, .int .i64 0, .string ⟨#[]⟩, .int .i64 0, .int .i64 0] 0 W1
   (fun q hq => by
    have hq6 : q < 6 := hq
    have h1 : cap * 6 ≤ cur.size := hcs
    rw [blk_cell hg1, Array.getElem?_eq_getElem (z_6)]; rfl) (fun q hq => blk_frozen hg1 _) (z_5)
  simp only [Nat.add_zero] at hst
  rw [← hW2] at hst
  simp [Builtin.clear_, run_underlying Try.underlying48, Try.zeroValue83, Builtin.zeroCells, Value.cells, List.range, List.range.loop, hst]
 have hp6 : i * 6 ≤ n * 6 := Nat.mul_le_mul_right _ (z_6)
 have ho6 : o + 6 ≤ cur1.size := by
  have h1 : cap * 6 ≤ cur.size := hcs
  omega
 obtain ⟨cur2, hg2, hs2, hc2⟩ := setCells_row [.string ⟨#[]⟩, .int .i64 0, .int .i64 0, .string ⟨#[]⟩, .int .i64 0, .int .i64 0] o W1 cur1 hg1 ho6
 rw [← hW2] at hg2
 have hfar : ∀ k, k ≠ g → W2.heap[k]? = w.heap[k]? := fun k hk => by
  rw [hW2, setCells_far _ _ k hk, hW1, setCells_far _ _ k hk]; rfl
 have hsame : W2.os = w.os ∧ W2.tape = w.tape ∧ W2.output = w.output ∧ W2.heap.size = w.heap.size := by
  have h1 := setCells_same g news (0 + i * 6) w.drew
  have h2 := setCells_same g [.string ⟨#[]⟩, .int .i64 0, .int .i64 0, .string ⟨#[]⟩, .int .i64 0, .int .i64 0] o W1
  rw [← hW1] at h1
  rw [← hW2] at h2
  exact ⟨h2.1.trans h1.1, h2.2.1.trans h1.2.1, h2.2.2.1.trans h1.2.2.1, h2.2.2.2.trans h1.2.2.2⟩
 have hlen : (l0.take i ++ l0.drop (i + 1)).length = i + (n - (i + 1)) := by rw [List.length_append, List.length_take, List.length_drop]; omega
 have hR : Kd.R k83 83 W2 w0.heap.size (fun k_ => (P0_ k_ ∨ w.heap.size ≤ k_)) (.slice (some ⟨g, 0, none⟩) (i + (n - (i + 1))) cap) (l0.take i ++ l0.drop (i + 1)) := by
  refine ⟨fun k hk => Or.inl (hok k hk), inner.take (i * 6) ++ news, ?_, ?_⟩
  ·refine ⟨?_, Or.inr ⟨g, cap, cur2, by rw [hlen], hbg, hg2, z_6, hcm, by rw [hs2, hs1]; exact hcs, ?_⟩⟩
   ·rw [List.length_append, List.length_take, hil, hnl, hlen]
    show min (i * 6) (n * 6) + _ = _ * 6
    omega
   ·rw [hlen, hc2]
    show List.take ((i + (n - (i + 1))) * 6) _ = _
    rw [← ho_, List.append_assoc, List.take_append_of_le_length (by rw [List.length_take, Array.length_toList]; omega), List.take_take, Nat.min_self, hc1, Nat.zero_add,
     List.take_append_of_le_length (by rw [List.length_append, List.length_take, Array.length_toList, hnl]; omega),
     List.take_of_length_le (by rw [List.length_append, List.length_take, Array.length_toList, hnl]; omega), ← ht, List.take_take, Nat.min_eq_left (z_6)]
  ·rw [hnews]
   refine Kd.reps_append (Kd.reps_take (hr.imp_ fun p c hp => ?_) (z_6)) (Kd.reps_drop (hr.imp_ fun p c hp => ?_))
   ·exact k83.M_mono (fun k hk => ⟨Or.inl hk.1, hk.2⟩) (k83.M_move (fun k hk => hfar k (fun e => hk.2 (by rw [e]; rfl))) hp)
   ·exact k83.M_mono (fun k hk => ⟨Or.inl hk.1, hk.2⟩) (k83.M_move (fun k hk => hfar k (fun e => hk.2 (by rw [e]; rfl))) hp)
 have hBW : Below w0.heap.size w0 W2 := ⟨hsame.1.trans hB.os, hsame.2.1.trans hB.tape, hsame.2.2.1.trans hB.output, by rw [hsame.2.2.2]; exact hB.size, fun k hk => (hfar k (z_6)).trans (hB.block k hk)⟩
 have hKW : Kept w W2 (fun k_ => P0_ k_) := ⟨by rw [hsame.2.2.2]; exact Nat.le_refl _, fun k hk hn => hfar k (fun e => hn (by rw [e]; exact hok g rfl))⟩
 rw [ho_] at hcl
 have HRR := Aside0.mk hR
 have HBW := Aside0.mk hBW
 have HKW := Aside0.mk hKW
 clear hR hBW hKW hsame hfar hg2 hs2 hc2 ho6 hp6 hlen ho_
 have HX1 := Aside0.mk hW1
 have HX2 := Aside0.mk hW2
 have HG := Aside0.mk hg
 have HG1 := Aside0.mk hg1
 have HC1 := Aside0.mk hc1
 have HT := Aside0.mk ht
 have HR := Aside0.mk hr
 have HO := Aside0.mk ho
 have HN := Aside0.mk hnews
 have HNL := Aside0.mk hnl
 have HSRC := Aside0.mk hsrc
 have HSOME := Aside0.mk hsome
 have HONE := Aside0.mk (fun u (hu : u ∈ news) => hone u (by rw [hnews] at hu; exact List.mem_of_mem_drop hu))
 have HOK := Aside0.mk hok
 have HB' := Aside0.mk hB
 have hic : i ≤ cap := z_6
 have hjc : i + 1 ≤ cap := z_6
 have hin : i < n := z_6
 have hcap : n ≤ cap := z_6
 have hz1 : (0 : Int) ≤ (i : Int) + 1 := z_6
 have hz2 : (i : Int) + 1 ≤ (n : Int) := z_6
 rw [← hn]
 have HNN := Aside0.mk hn
 clear hn
 have hcm' : cap ≤ 9223372036854775807 := hcm
 clear hW1 hW2 hg hg1 hc1 ht hr ho hnews hnl hsrc hsome hone hok hB hcell hs6 hil hcs hcm hfit hs1 hi hnc hm hbg
 go_enter Try.func85, Try.ntmps85
 go_wp2_with fail
 go_region_law (refine step_append_room rfl (.tmp 22) (.tmp 25) 48 rfl 83 _ 6 Try.underlying48 rfl rfl g 0 i cap (by simp [Act.eval, Act.put]) A (n - (i + 1)) (cap - (i + 1)) news (by simp [Act.eval, Act.put]) HNL.out HSRC.out HONE.out (z_6) (fun q hq => by have h1 := HNL.out; have h2 := HSOME.out (0 + i * 6 + q) (z_6); exact h2) ?_; rw [← HX1.out])
 go_wp2
 go_ret
 exact ⟨_, rfl, HRR.out, HBW.out, HKW.out⟩

end Go.Proofs.Ytmgnmgobibpjjaa.GFnKeptAsk
