/- What the Go functions that FnExactKeptFind reaches come to, walked step by step; there is no condition beyond those each statement names. -/
import Derived.Test.YtmgnmgobibpjjaaGFnExactKeptFindx0
import Derived.Test.YtmgnmgobibpjjaaGFnExactKeptFindx9
import Derived.Test.YtmgnmgobibpjjaaGFnExactKeptFindx10
import Derived.Test.YtmgnmgobibpjjaaGFnExactKeptFindx11
import Derived.Test.YtmgnmgobibpjjaaGFnExactKeptFindx12
namespace Go.Proofs.Ytmgnmgobibpjjaa.GFnExactKeptFind
open Go.RowKit Go.Proofs.YtmgnmgobibpjjaaVExactKeptFind.PrintWords Go.Proofs.YtmgnmgobibpjjaaVExactKeptFind.PrintLast Go.Proofs.YtmgnmgobibpjjaaVExactKeptFind.PrintMore
attribute [local go_sem] max2_int min2_int max_two min_two max_three min_three max_four min_four   -- for this text's walks alone
set_option linter.unusedVariables false
set_option linter.unusedSimpArgs false

/-! ### spec_KeptFind: function 50 -/
mutual
def spec_KeptFind.j0 : Nat → List (S83) → List (S26) → ByteArray → Int → Bool → Option ((List (S83)) × Int × Bool)
 | 0, _, _, _, _, _ => none
 | k + 1, x0, x1, x2, x3, x32 => if x32 = true then (some ((([] : List (S83))), 0, false)) else (spec_KeptFind.l0 k x0 x1 x2 x3 0)
def spec_KeptFind.l0 : Nat → List (S83) → List (S26) → ByteArray → Int → Int → Option ((List (S83)) × Int × Bool)
 | 0, _, _, _, _, _ => none
 | k + 1, x0, x1, x2, x3, x11 => if x11 ≤ 4 then ((spec_KeptAsk.f k x0 x1 x2 x3).bind fun bt327 => (if bt327.2.2.1 = 0 then (some (bt327.1, 0, false)) else (if bt327.2.2.1 = 1 then (some (bt327.1, bt327.2.2.2.1, true)) else (spec_KeptFind.l0 k bt327.1 x1 bt327.2.2.2.2.1 x3 (wrap64 (x11 + 1)))))) else (some (x0, 0, false))
end
def spec_KeptFind.f (k : Nat) (l0 : List (S83)) (l1 : List (S26)) (a2 : ByteArray) (a3 : Int) : Option ((List (S83)) × Int × Bool) := (spec_KeptOk.f k l0).bind fun t320 => (if t320 = true then ((spec_NamesOk.f k l1).bind fun t321 => (if t321 = true then ((spec_l19Word.f k a2).bind fun t322 => (if t322 = true then ((spec_l1In.f a3 0 900000).bind fun t323 => (spec_KeptFind.j0 k l0 l1 a2 a3 (!t323))) else (spec_KeptFind.j0 k l0 l1 a2 a3 true))) else (spec_KeptFind.j0 k l0 l1 a2 a3 true))) else (spec_KeptFind.j0 k l0 l1 a2 a3 true))
theorem spec_KeptFind.mono_l : ∀ k, (∀ y0 y1 y2 y3 y4, LeO (spec_KeptFind.j0 k y0 y1 y2 y3 y4) (spec_KeptFind.j0 (k + 1) y0 y1 y2 y3 y4)) ∧ (∀ y0 y1 y2 y3 y4, LeO (spec_KeptFind.l0 k y0 y1 y2 y3 y4) (spec_KeptFind.l0 (k + 1) y0 y1 y2 y3 y4))
 | 0 => ⟨fun _ _ _ _ _ r h => by simp [spec_KeptFind.j0] at h, fun _ _ _ _ _ r h => by simp [spec_KeptFind.l0] at h⟩
 | k + 1 => by
  obtain ⟨ih0, ih1⟩ := spec_KeptFind.mono_l k
  refine ⟨?_, ?_⟩
  ·intro y0 y1 y2 y3 y4
   unfold spec_KeptFind.j0
   repeat' first
   | (with_reducible exact ih0 _ _ _ _ _)
   | (with_reducible exact ih1 _ _ _ _ _)
   | (with_reducible exact spec_KeptAsk.mono _ _ _ _ _)
   | (with_reducible exact spec_KeptOk.mono _ _)
   | (with_reducible exact spec_NamesOk.mono _ _)
   | (with_reducible exact spec_l19Word.mono _ _)
   | (with_reducible exact LeO.refl _)
   | (with_reducible exact LeO.none _)
   | (with_reducible refine LeO.ite ?_ ?_)
   | (with_reducible refine LeO.bind ?_ (fun _ => ?_))
   | exact ih0 _ _ _ _ _
   | exact ih1 _ _ _ _ _
   | exact spec_KeptAsk.mono _ _ _ _ _
   | exact spec_KeptOk.mono _ _
   | exact spec_NamesOk.mono _ _
   | exact spec_l19Word.mono _ _
   | exact LeO.none _
   | refine LeO.ite ?_ ?_
   | refine LeO.bind ?_ (fun _ => ?_)
  ·intro y0 y1 y2 y3 y4
   unfold spec_KeptFind.l0
   repeat' first
   | (with_reducible exact ih0 _ _ _ _ _)
   | (with_reducible exact ih1 _ _ _ _ _)
   | (with_reducible exact spec_KeptAsk.mono _ _ _ _ _)
   | (with_reducible exact spec_KeptOk.mono _ _)
   | (with_reducible exact spec_NamesOk.mono _ _)
   | (with_reducible exact spec_l19Word.mono _ _)
   | (with_reducible exact LeO.refl _)
   | (with_reducible exact LeO.none _)
   | (with_reducible refine LeO.ite ?_ ?_)
   | (with_reducible refine LeO.bind ?_ (fun _ => ?_))
   | exact ih0 _ _ _ _ _
   | exact ih1 _ _ _ _ _
   | exact spec_KeptAsk.mono _ _ _ _ _
   | exact spec_KeptOk.mono _ _
   | exact spec_NamesOk.mono _ _
   | exact spec_l19Word.mono _ _
   | exact LeO.none _
   | refine LeO.ite ?_ ?_
   | refine LeO.bind ?_ (fun _ => ?_)
theorem spec_KeptFind.mono : ∀ a0 a1 a2 a3 k, LeO (spec_KeptFind.f k a0 a1 a2 a3) (spec_KeptFind.f (k + 1) a0 a1 a2 a3) := by
 intro a0 a1 a2 a3 k
 obtain ⟨ih0, ih1⟩ := spec_KeptFind.mono_l k
 unfold spec_KeptFind.f
 repeat' first
   | (with_reducible exact ih0 _ _ _ _ _)
   | (with_reducible exact ih1 _ _ _ _ _)
   | (with_reducible exact spec_KeptAsk.mono _ _ _ _ _)
   | (with_reducible exact spec_KeptOk.mono _ _)
   | (with_reducible exact spec_NamesOk.mono _ _)
   | (with_reducible exact spec_l19Word.mono _ _)
   | (with_reducible exact LeO.refl _)
   | (with_reducible exact LeO.none _)
   | (with_reducible refine LeO.ite ?_ ?_)
   | (with_reducible refine LeO.bind ?_ (fun _ => ?_))
   | exact ih0 _ _ _ _ _
   | exact ih1 _ _ _ _ _
   | exact spec_KeptAsk.mono _ _ _ _ _
   | exact spec_KeptOk.mono _ _
   | exact spec_NamesOk.mono _ _
   | exact spec_l19Word.mono _ _
   | exact LeO.none _
   | refine LeO.ite ?_ ?_
   | refine LeO.bind ?_ (fun _ => ?_)
set_option maxHeartbeats 8000000 in
set_option maxRecDepth 100000 in
theorem spec_KeptFind.calls (k : Nat) (P0_ : Nat → Prop) (A0 : Option Addr) (c0 : Nat) (l0 : List (S83)) (A1 : Option Addr) (c1 : Nat) (l1 : List (S26)) (a2 : ByteArray) (a3 : Int) (r1 : List (S83)) (r2 : Int) (r3 : Bool) (w : World) (hs0 : Kd.V k83 83 w w.heap.size (fun k_ => P0_ k_) (.slice A0 l0.length c0) l0) (hr1 : Kd.C k26 w A1 l1.length l1) (hc1 : l1.length ≤ c1) (h : spec_KeptFind.f k l0 l1 a2 a3 = some (r1, r2, r3)) :
  Calls Try.prog 50 #[.slice A0 l0.length c0, .slice A1 l1.length c1, .string a2, .int .i64 a3] w fun e w' => ∃ v0_ : Value, e = .returned (.tuple #[v0_, .int .i64 r2, .bool r3]) ∧ Kd.V k83 83 w' w.heap.size (fun k_ => (P0_ k_ ∨ w.heap.size ≤ k_)) v0_ r1 ∧ Below w.heap.size w w' := by
 have hu26 := Try.underlying26
 have HO0 := Aside0.mk (show Kd.V k83 83 w w.heap.size (fun k_ => (P0_ k_ ∨ w.heap.size ≤ k_)) (.slice A0 l0.length c0) l0 from Kd.V_mono hs0 (fun k_ hk => .inl hk))
 have HR1 := Aside0.mk hr1
 have HC1 := Aside0.mk hc1
 clear hr1 hc1
 have HB := Aside0.mk (Below.refl w.heap.size w)
 have H : ((spec_KeptOk.f k l0).bind fun t320 => (if t320 = true then ((spec_NamesOk.f k l1).bind fun t321 => (if t321 = true then ((spec_l19Word.f k a2).bind fun t322 => (if t322 = true then ((spec_l1In.f a3 0 900000).bind fun t323 => (spec_KeptFind.j0 k l0 l1 a2 a3 (!t323))) else (spec_KeptFind.j0 k l0 l1 a2 a3 true))) else (spec_KeptFind.j0 k l0 l1 a2 a3 true))) else (spec_KeptFind.j0 k l0 l1 a2 a3 true))) = some (r1, r2, r3) := h
 clear h
 have HC5 := Aside0.mk H
 clear H
 go_enter Try.func50, Try.ntmps50
 go_upto_region 1 with (fail)
 repeat (go_quiet (fail); go_upto_region 1 with (fail))
 go_cut [32] (fun v32 wc => ∃ (kq : Nat) (x32_4 : Bool), v32 = .bool x32_4 ∧ Aside0 (spec_KeptFind.j0 kq l0 l1 a2 a3 x32_4 = some (r1, r2, r3)) ∧ Aside0 (kq ≤ k) ∧ Aside0 (Kd.V k83 83 wc w.heap.size (fun k_ => (P0_ k_ ∨ w.heap.size ≤ k_)) (.slice A0 l0.length c0) l0) ∧ Aside0 (Below w.heap.size w wc))
 case first =>
  have H := HC5.out
  clear HC5
  replace H := Option.bind_eq_some_iff.mp H
  obtain ⟨t320, A60, H⟩ := H
  have A6 := Aside0.mk A60
  clear A60
  by_cases c7 : t320 = true
  ·subst c7
   rw [if_pos rfl] at H
   replace H := Option.bind_eq_some_iff.mp H
   obtain ⟨t321, A80, H⟩ := H
   have A8 := Aside0.mk A80
   clear A80
   by_cases c9 : t321 = true
   ·subst c9
    rw [if_pos rfl] at H
    replace H := Option.bind_eq_some_iff.mp H
    obtain ⟨t322, A100, H⟩ := H
    have A10 := Aside0.mk A100
    clear A100
    by_cases c11 : t322 = true
    ·subst c11
     rw [if_pos rfl] at H
     replace H := Option.bind_eq_some_iff.mp H
     obtain ⟨t323, A120, H⟩ := H
     have A12 := Aside0.mk A120
     clear A120
     have H' := Aside0.mk H
     clear H
     go_wp2_with (first | (go_at_call 34; (with_reducible refine (spec_KeptOk.calls k _ _ l0 true _ ?side1 ?side2 A6.out).mono ?_); (case side1 => exact z_131); (case side2 => exact z_132); rintro e w13 ⟨rfl, hb⟩; have n0_ := Aside0.mk (Kd.V_below (z_133) hb); have n1_ := Aside0.mk (below_step (z_2) hb); clear HO0; clear HB; have HO0 := n0_; have HB := n1_; clear n0_ n1_; (try clear hb); (try clear hb2); (try clear hk); (try clear hi)) | (go_at_call 25; (with_reducible refine (spec_NamesOk.calls k _ _ l1 true _ ?side1 ?side2 A8.out).mono ?_); (case side1 => exact z_61); (case side2 => exact HC1.out); rintro e w14 ⟨rfl, hb⟩; have n0_ := Aside0.mk (Kd.V_below (z_133) hb); have n1_ := Aside0.mk (below_step (z_2) hb); clear HO0; clear HB; have HO0 := n0_; have HB := n1_; clear n0_ n1_; (try clear hb); (try clear hb2); (try clear hk); (try clear hi)) | (go_at_call 54; (with_reducible refine (spec_l19Word.calls k a2 true _ A10.out).mono ?_); rintro e w' ⟨rfl, ⟨nd, rfl⟩⟩; (try first | exact ⟨rfl, _, World.drewN_drewN _ _ _⟩ | exact ⟨rfl, _, Eq.trans (World.drewN_drewN _ _ _) (congrArg (World.drewN _) (Nat.add_assoc _ _ _))⟩)) | (go_at_call 55; (with_reducible refine (spec_l1In.calls a3 0 900000 t323 _ A12.out).mono ?_); rintro e w' ⟨rfl, ⟨nd, rfl⟩⟩; (try first | exact ⟨rfl, _, World.drewN_drewN _ _ _⟩ | exact ⟨rfl, _, Eq.trans (World.drewN_drewN _ _ _) (congrArg (World.drewN _) (Nat.add_assoc _ _ _))⟩)))
     repeat (go_quiet (first | (go_at_call 34; (with_reducible refine (spec_KeptOk.calls k _ _ l0 true _ ?side1 ?side2 A6.out).mono ?_); (case side1 => exact z_131); (case side2 => exact z_132); rintro e w13 ⟨rfl, hb⟩; have n0_ := Aside0.mk (Kd.V_below (z_133) hb); have n1_ := Aside0.mk (below_step (z_2) hb); clear HO0; clear HB; have HO0 := n0_; have HB := n1_; clear n0_ n1_; (try clear hb); (try clear hb2); (try clear hk); (try clear hi)) | (go_at_call 25; (with_reducible refine (spec_NamesOk.calls k _ _ l1 true _ ?side1 ?side2 A8.out).mono ?_); (case side1 => exact z_61); (case side2 => exact HC1.out); rintro e w14 ⟨rfl, hb⟩; have n0_ := Aside0.mk (Kd.V_below (z_133) hb); have n1_ := Aside0.mk (below_step (z_2) hb); clear HO0; clear HB; have HO0 := n0_; have HB := n1_; clear n0_ n1_; (try clear hb); (try clear hb2); (try clear hk); (try clear hi)) | (go_at_call 54; (with_reducible refine (spec_l19Word.calls k a2 true _ A10.out).mono ?_); rintro e w' ⟨rfl, ⟨nd, rfl⟩⟩; (try first | exact ⟨rfl, _, World.drewN_drewN _ _ _⟩ | exact ⟨rfl, _, Eq.trans (World.drewN_drewN _ _ _) (congrArg (World.drewN _) (Nat.add_assoc _ _ _))⟩)) | (go_at_call 55; (with_reducible refine (spec_l1In.calls a3 0 900000 t323 _ A12.out).mono ?_); rintro e w' ⟨rfl, ⟨nd, rfl⟩⟩; (try first | exact ⟨rfl, _, World.drewN_drewN _ _ _⟩ | exact ⟨rfl, _, Eq.trans (World.drewN_drewN _ _ _) (congrArg (World.drewN _) (Nat.add_assoc _ _ _))⟩))); try go_wp2_with (first | (go_at_call 34; (with_reducible refine (spec_KeptOk.calls k _ _ l0 true _ ?side1 ?side2 A6.out).mono ?_); (case side1 => exact z_131); (case side2 => exact z_132); rintro e w13 ⟨rfl, hb⟩; have n0_ := Aside0.mk (Kd.V_below (z_133) hb); have n1_ := Aside0.mk (below_step (z_2) hb); clear HO0; clear HB; have HO0 := n0_; have HB := n1_; clear n0_ n1_; (try clear hb); (try clear hb2); (try clear hk); (try clear hi)) | (go_at_call 25; (with_reducible refine (spec_NamesOk.calls k _ _ l1 true _ ?side1 ?side2 A8.out).mono ?_); (case side1 => exact z_61); (case side2 => exact HC1.out); rintro e w14 ⟨rfl, hb⟩; have n0_ := Aside0.mk (Kd.V_below (z_133) hb); have n1_ := Aside0.mk (below_step (z_2) hb); clear HO0; clear HB; have HO0 := n0_; have HB := n1_; clear n0_ n1_; (try clear hb); (try clear hb2); (try clear hk); (try clear hi)) | (go_at_call 54; (with_reducible refine (spec_l19Word.calls k a2 true _ A10.out).mono ?_); rintro e w' ⟨rfl, ⟨nd, rfl⟩⟩; (try first | exact ⟨rfl, _, World.drewN_drewN _ _ _⟩ | exact ⟨rfl, _, Eq.trans (World.drewN_drewN _ _ _) (congrArg (World.drewN _) (Nat.add_assoc _ _ _))⟩)) | (go_at_call 55; (with_reducible refine (spec_l1In.calls a3 0 900000 t323 _ A12.out).mono ?_); rintro e w' ⟨rfl, ⟨nd, rfl⟩⟩; (try first | exact ⟨rfl, _, World.drewN_drewN _ _ _⟩ | exact ⟨rfl, _, Eq.trans (World.drewN_drewN _ _ _) (congrArg (World.drewN _) (Nat.add_assoc _ _ _))⟩))))
     go_meet
     case rel => exact ⟨_, (!t323), (z_6), H', ⟨z_52⟩, ⟨z_133⟩, ⟨z_2⟩⟩
    ·replace c11 := Bool.eq_false_iff.mpr c11
     subst c11
     rw [if_neg (show ¬ (false = true) by decide)] at H
     have H' := Aside0.mk H
     clear H
     go_wp2_with (first | (go_at_call 34; (with_reducible refine (spec_KeptOk.calls k _ _ l0 true _ ?side1 ?side2 A6.out).mono ?_); (case side1 => exact z_131); (case side2 => exact z_132); rintro e w15 ⟨rfl, hb⟩; have n0_ := Aside0.mk (Kd.V_below (z_133) hb); have n1_ := Aside0.mk (below_step (z_2) hb); clear HO0; clear HB; have HO0 := n0_; have HB := n1_; clear n0_ n1_; (try clear hb); (try clear hb2); (try clear hk); (try clear hi)) | (go_at_call 25; (with_reducible refine (spec_NamesOk.calls k _ _ l1 true _ ?side1 ?side2 A8.out).mono ?_); (case side1 => exact z_61); (case side2 => exact HC1.out); rintro e w16 ⟨rfl, hb⟩; have n0_ := Aside0.mk (Kd.V_below (z_133) hb); have n1_ := Aside0.mk (below_step (z_2) hb); clear HO0; clear HB; have HO0 := n0_; have HB := n1_; clear n0_ n1_; (try clear hb); (try clear hb2); (try clear hk); (try clear hi)) | (go_at_call 54; (with_reducible refine (spec_l19Word.calls k a2 false _ A10.out).mono ?_); rintro e w' ⟨rfl, ⟨nd, rfl⟩⟩; (try first | exact ⟨rfl, _, World.drewN_drewN _ _ _⟩ | exact ⟨rfl, _, Eq.trans (World.drewN_drewN _ _ _) (congrArg (World.drewN _) (Nat.add_assoc _ _ _))⟩)))
     repeat (go_quiet (first | (go_at_call 34; (with_reducible refine (spec_KeptOk.calls k _ _ l0 true _ ?side1 ?side2 A6.out).mono ?_); (case side1 => exact z_131); (case side2 => exact z_132); rintro e w15 ⟨rfl, hb⟩; have n0_ := Aside0.mk (Kd.V_below (z_133) hb); have n1_ := Aside0.mk (below_step (z_2) hb); clear HO0; clear HB; have HO0 := n0_; have HB := n1_; clear n0_ n1_; (try clear hb); (try clear hb2); (try clear hk); (try clear hi)) | (go_at_call 25; (with_reducible refine (spec_NamesOk.calls k _ _ l1 true _ ?side1 ?side2 A8.out).mono ?_); (case side1 => exact z_61); (case side2 => exact HC1.out); rintro e w16 ⟨rfl, hb⟩; have n0_ := Aside0.mk (Kd.V_below (z_133) hb); have n1_ := Aside0.mk (below_step (z_2) hb); clear HO0; clear HB; have HO0 := n0_; have HB := n1_; clear n0_ n1_; (try clear hb); (try clear hb2); (try clear hk); (try clear hi)) | (go_at_call 54; (with_reducible refine (spec_l19Word.calls k a2 false _ A10.out).mono ?_); rintro e w' ⟨rfl, ⟨nd, rfl⟩⟩; (try first | exact ⟨rfl, _, World.drewN_drewN _ _ _⟩ | exact ⟨rfl, _, Eq.trans (World.drewN_drewN _ _ _) (congrArg (World.drewN _) (Nat.add_assoc _ _ _))⟩))); try go_wp2_with (first | (go_at_call 34; (with_reducible refine (spec_KeptOk.calls k _ _ l0 true _ ?side1 ?side2 A6.out).mono ?_); (case side1 => exact z_131); (case side2 => exact z_132); rintro e w15 ⟨rfl, hb⟩; have n0_ := Aside0.mk (Kd.V_below (z_133) hb); have n1_ := Aside0.mk (below_step (z_2) hb); clear HO0; clear HB; have HO0 := n0_; have HB := n1_; clear n0_ n1_; (try clear hb); (try clear hb2); (try clear hk); (try clear hi)) | (go_at_call 25; (with_reducible refine (spec_NamesOk.calls k _ _ l1 true _ ?side1 ?side2 A8.out).mono ?_); (case side1 => exact z_61); (case side2 => exact HC1.out); rintro e w16 ⟨rfl, hb⟩; have n0_ := Aside0.mk (Kd.V_below (z_133) hb); have n1_ := Aside0.mk (below_step (z_2) hb); clear HO0; clear HB; have HO0 := n0_; have HB := n1_; clear n0_ n1_; (try clear hb); (try clear hb2); (try clear hk); (try clear hi)) | (go_at_call 54; (with_reducible refine (spec_l19Word.calls k a2 false _ A10.out).mono ?_); rintro e w' ⟨rfl, ⟨nd, rfl⟩⟩; (try first | exact ⟨rfl, _, World.drewN_drewN _ _ _⟩ | exact ⟨rfl, _, Eq.trans (World.drewN_drewN _ _ _) (congrArg (World.drewN _) (Nat.add_assoc _ _ _))⟩))))
     go_meet
     case rel => exact ⟨_, (true), (z_6), H', ⟨z_52⟩, ⟨z_133⟩, ⟨z_2⟩⟩
   ·replace c9 := Bool.eq_false_iff.mpr c9
    subst c9
    rw [if_neg (show ¬ (false = true) by decide)] at H
    have H' := Aside0.mk H
    clear H
    go_wp2_with (first | (go_at_call 34; (with_reducible refine (spec_KeptOk.calls k _ _ l0 true _ ?side1 ?side2 A6.out).mono ?_); (case side1 => exact z_131); (case side2 => exact z_132); rintro e w17 ⟨rfl, hb⟩; have n0_ := Aside0.mk (Kd.V_below (z_133) hb); have n1_ := Aside0.mk (below_step (z_2) hb); clear HO0; clear HB; have HO0 := n0_; have HB := n1_; clear n0_ n1_; (try clear hb); (try clear hb2); (try clear hk); (try clear hi)) | (go_at_call 25; (with_reducible refine (spec_NamesOk.calls k _ _ l1 false _ ?side1 ?side2 A8.out).mono ?_); (case side1 => exact z_61); (case side2 => exact HC1.out); rintro e w18 ⟨rfl, hb⟩; have n0_ := Aside0.mk (Kd.V_below (z_133) hb); have n1_ := Aside0.mk (below_step (z_2) hb); clear HO0; clear HB; have HO0 := n0_; have HB := n1_; clear n0_ n1_; (try clear hb); (try clear hb2); (try clear hk); (try clear hi)))
    repeat (go_quiet (first | (go_at_call 34; (with_reducible refine (spec_KeptOk.calls k _ _ l0 true _ ?side1 ?side2 A6.out).mono ?_); (case side1 => exact z_131); (case side2 => exact z_132); rintro e w17 ⟨rfl, hb⟩; have n0_ := Aside0.mk (Kd.V_below (z_133) hb); have n1_ := Aside0.mk (below_step (z_2) hb); clear HO0; clear HB; have HO0 := n0_; have HB := n1_; clear n0_ n1_; (try clear hb); (try clear hb2); (try clear hk); (try clear hi)) | (go_at_call 25; (with_reducible refine (spec_NamesOk.calls k _ _ l1 false _ ?side1 ?side2 A8.out).mono ?_); (case side1 => exact z_61); (case side2 => exact HC1.out); rintro e w18 ⟨rfl, hb⟩; have n0_ := Aside0.mk (Kd.V_below (z_133) hb); have n1_ := Aside0.mk (below_step (z_2) hb); clear HO0; clear HB; have HO0 := n0_; have HB := n1_; clear n0_ n1_; (try clear hb); (try clear hb2); (try clear hk); (try clear hi))); try go_wp2_with (first | (go_at_call 34; (with_reducible refine (spec_KeptOk.calls k _ _ l0 true _ ?side1 ?side2 A6.out).mono ?_); (case side1 => exact z_131); (case side2 => exact z_132); rintro e w17 ⟨rfl, hb⟩; have n0_ := Aside0.mk (Kd.V_below (z_133) hb); have n1_ := Aside0.mk (below_step (z_2) hb); clear HO0; clear HB; have HO0 := n0_; have HB := n1_; clear n0_ n1_; (try clear hb); (try clear hb2); (try clear hk); (try clear hi)) | (go_at_call 25; (with_reducible refine (spec_NamesOk.calls k _ _ l1 false _ ?side1 ?side2 A8.out).mono ?_); (case side1 => exact z_61); (case side2 => exact HC1.out); rintro e w18 ⟨rfl, hb⟩; have n0_ := Aside0.mk (Kd.V_below (z_133) hb); have n1_ := Aside0.mk (below_step (z_2) hb); clear HO0; clear HB; have HO0 := n0_; have HB := n1_; clear n0_ n1_; (try clear hb); (try clear hb2); (try clear hk); (try clear hi))))
    go_meet
    case rel => exact ⟨_, (true), (z_6), H', ⟨z_52⟩, ⟨z_133⟩, ⟨z_2⟩⟩
  ·replace c7 := Bool.eq_false_iff.mpr c7
   subst c7
   rw [if_neg (show ¬ (false = true) by decide)] at H
   have H' := Aside0.mk H
   clear H
   go_wp2_with (first | (go_at_call 34; (with_reducible refine (spec_KeptOk.calls k _ _ l0 false _ ?side1 ?side2 A6.out).mono ?_); (case side1 => exact z_131); (case side2 => exact z_132); rintro e w19 ⟨rfl, hb⟩; have n0_ := Aside0.mk (Kd.V_below (z_133) hb); have n1_ := Aside0.mk (below_step (z_2) hb); clear HO0; clear HB; have HO0 := n0_; have HB := n1_; clear n0_ n1_; (try clear hb); (try clear hb2); (try clear hk); (try clear hi)))
   repeat (go_quiet (first | (go_at_call 34; (with_reducible refine (spec_KeptOk.calls k _ _ l0 false _ ?side1 ?side2 A6.out).mono ?_); (case side1 => exact z_131); (case side2 => exact z_132); rintro e w19 ⟨rfl, hb⟩; have n0_ := Aside0.mk (Kd.V_below (z_133) hb); have n1_ := Aside0.mk (below_step (z_2) hb); clear HO0; clear HB; have HO0 := n0_; have HB := n1_; clear n0_ n1_; (try clear hb); (try clear hb2); (try clear hk); (try clear hi))); try go_wp2_with (first | (go_at_call 34; (with_reducible refine (spec_KeptOk.calls k _ _ l0 false _ ?side1 ?side2 A6.out).mono ?_); (case side1 => exact z_131); (case side2 => exact z_132); rintro e w19 ⟨rfl, hb⟩; have n0_ := Aside0.mk (Kd.V_below (z_133) hb); have n1_ := Aside0.mk (below_step (z_2) hb); clear HO0; clear HB; have HO0 := n0_; have HB := n1_; clear n0_ n1_; (try clear hb); (try clear hb2); (try clear hk); (try clear hi))))
   go_meet
   case rel => exact ⟨_, (true), (z_6), H', ⟨z_52⟩, ⟨z_133⟩, ⟨z_2⟩⟩
 case rest =>
  clear HC5
  try clear c1
  try clear p2
  try clear c5
  try clear c7
  try clear c9
  try clear c11
  obtain ⟨kq, x32_4, rfl, HA, HJ4, HO_0, HB⟩ := hcut
  cases kq with
  | zero => exact absurd HA.out (by simp [spec_KeptFind.j0])
  | succ kj4 =>
   have H := HA.out
   clear HA
   simp only [spec_KeptFind.j0] at H
   by_cases c20 : x32_4 = true
   ·subst c20
    rw [if_pos rfl] at H
    obtain ⟨y324, hy324⟩ : ∃ y_ : List (S83), y_ = (([] : List (S83))) := ⟨_, rfl⟩
    replace H : (some (y324, 0, false)) = some (r1, r2, r3) := by first | (rw [hy324]; with_reducible exact H) | (have H2_ := (Option.bind_some _ _).symm.trans H; rw [hy324]; with_reducible exact H2_) | (have H2_ := (Option.bind_some _ _).symm.trans H; with_reducible exact H2_) | with_reducible exact H | (rw [hy324]; exact H) | exact H
    have Ny324 := Aside0.mk hy324
    clear hy324
    simp only [Option.some.injEq, Prod.mk.injEq] at H
    obtain ⟨rfl, rfl, rfl⟩ := H
    go_wp2_with (first | ((with_reducible refine gate_dst (N := 33) rfl ?_); refine Kd.R_lit k83 _ 83 ?hg (N := 33) ?hd (xs := ([] : List (S83))) (inner := []) (ok := fun _ => True) (okp := fun _ => True) ?hr ?hp (fun _ hk => hk) trivial (Below.refl _ _) (Nat.le_refl _) (z_10) ?_; (case hd => rfl); (case hg => rfl); (case hr => exact z_1); (case hp => exact (Reps.none _ _)); intro v325 w21 ho22 hb hg_ hnew_; clear hg_ hnew_; (first | rw [← Ny324.out] at ho22 | (simp only [Int.reduceToNat] at ho22; rw [← Ny324.out] at ho22)); have n0_ := Aside0.mk (Kd.V_elder' (z_134) (Kd.R_base ho22) hb); have n1_ := Aside0.mk (Kd.R_lower (Kd.R_newM (M := fun k_ => (w.heap.size ≤ k_)) ho22 (below_size (z_2)) (fun k_ h_ => h_)) (below_size (z_2))); have n2_ := Aside0.mk (below_step (z_2) hb); clear HO_0; clear HB; have HO_0 := n0_; have HO326 := n1_; have HB := n2_; clear n0_ n1_ n2_; clear hb ho22))
    repeat (go_quiet (first | ((with_reducible refine gate_dst (N := 33) rfl ?_); refine Kd.R_lit k83 _ 83 ?hg (N := 33) ?hd (xs := ([] : List (S83))) (inner := []) (ok := fun _ => True) (okp := fun _ => True) ?hr ?hp (fun _ hk => hk) trivial (Below.refl _ _) (Nat.le_refl _) (z_10) ?_; (case hd => rfl); (case hg => rfl); (case hr => exact z_1); (case hp => exact (Reps.none _ _)); intro v325 w21 ho22 hb hg_ hnew_; clear hg_ hnew_; (first | rw [← Ny324.out] at ho22 | (simp only [Int.reduceToNat] at ho22; rw [← Ny324.out] at ho22)); have n0_ := Aside0.mk (Kd.V_elder' (z_134) (Kd.R_base ho22) hb); have n1_ := Aside0.mk (Kd.R_lower (Kd.R_newM (M := fun k_ => (w.heap.size ≤ k_)) ho22 (below_size (z_2)) (fun k_ h_ => h_)) (below_size (z_2))); have n2_ := Aside0.mk (below_step (z_2) hb); clear HO_0; clear HB; have HO_0 := n0_; have HO326 := n1_; have HB := n2_; clear n0_ n1_ n2_; clear hb ho22)); try go_wp2_with (first | ((with_reducible refine gate_dst (N := 33) rfl ?_); refine Kd.R_lit k83 _ 83 ?hg (N := 33) ?hd (xs := ([] : List (S83))) (inner := []) (ok := fun _ => True) (okp := fun _ => True) ?hr ?hp (fun _ hk => hk) trivial (Below.refl _ _) (Nat.le_refl _) (z_10) ?_; (case hd => rfl); (case hg => rfl); (case hr => exact z_1); (case hp => exact (Reps.none _ _)); intro v325 w21 ho22 hb hg_ hnew_; clear hg_ hnew_; (first | rw [← Ny324.out] at ho22 | (simp only [Int.reduceToNat] at ho22; rw [← Ny324.out] at ho22)); have n0_ := Aside0.mk (Kd.V_elder' (z_134) (Kd.R_base ho22) hb); have n1_ := Aside0.mk (Kd.R_lower (Kd.R_newM (M := fun k_ => (w.heap.size ≤ k_)) ho22 (below_size (z_2)) (fun k_ h_ => h_)) (below_size (z_2))); have n2_ := Aside0.mk (below_step (z_2) hb); clear HO_0; clear HB; have HO_0 := n0_; have HO326 := n1_; have HB := n2_; clear n0_ n1_ n2_; clear hb ho22)))
    go_ret3
    exact ⟨_, z_4, Kd.V_mono (Kd.R_V (by (with_reducible repeat (first | apply Kd.R_alloc | apply Kd.R_drewN | apply Kd.R_drew)); exact Kd.R_mono HO326.out (fun _ hk => hk.1))) (fun k_ hk => z_135), z_2⟩
   ·replace c20 := Bool.eq_false_iff.mpr c20
    subst c20
    rw [if_neg (show ¬ (false = true) by decide)] at H
    have H' := Aside0.mk H
    clear H
    go_wp2
    repeat (go_quiet (fail); try go_wp2)
    go_loopg [0, 2, 11] kj4 (fun kq v0 v2 v11 w' => ∃ (x0_2 : List (S83)) (x2_2 : ByteArray) (x11_2 : Int), v2 = .string x2_2 ∧ v11 = .int .i64 x11_2 ∧ Aside0 (spec_KeptFind.l0 kq x0_2 l1 x2_2 a3 x11_2 = some (r1, r2, r3)) ∧ Aside0 (kq ≤ kj4) ∧ Aside0 (Kd.V k83 83 w' w.heap.size (fun k_ => (P0_ k_ ∨ w.heap.size ≤ k_)) v0 x0_2) ∧ Aside0 (Below w.heap.size w w'))
    case atStart => exact ⟨(l0), (a2), (0), (z_6), (z_6), H', ⟨Nat.le_refl _⟩, ⟨z_134⟩, ⟨z_2⟩⟩
    case round =>
     clear H'
     try clear c1
     try clear c2
     try clear p2
     try clear c5
     try clear c7
     try clear c9
     try clear c11
     try clear c20
     try clear p2
     obtain ⟨x0_2, x2_2, x11_2, rfl, rfl, HA, HK2, HO_0, HB⟩ := hrel
     cases gk with
     | zero => exact absurd HA.out (by simp [spec_KeptFind.l0])
     | succ k2 =>
      have H := HA.out
      clear HA
      simp only [spec_KeptFind.l0] at H
      by_cases c23 : x11_2 ≤ 4
      ·rw [if_pos c23] at H
       have c23b0 : decide (x11_2 ≤ 4) = true := decide_eq_true c23
       clear c23
       replace H := Option.bind_eq_some_iff.mp H
       obtain ⟨⟨t327, t330, t331, t332, t333, t334, t335⟩, A240, H⟩ := H
       replace H : (if t331 = 0 then (some (t327, 0, false)) else (if t331 = 1 then (some (t327, t332, true)) else (spec_KeptFind.l0 k2 t327 l1 t333 a3 (wrap64 (x11_2 + 1))))) = some (r1, r2, r3) := H
       have A24 := Aside0.mk A240
       clear A240
       by_cases c25 : t331 = 0
       ·rw [if_pos c25] at H
        have c25b0 : (t331 == 0) = true := beq_iff_eq.mpr c25
        have c25b1 : (t331 != 0) = false := bne_eq_false_iff_eq.mpr c25
        clear c25
        simp only [Option.some.injEq, Prod.mk.injEq] at H
        obtain ⟨rfl, rfl, rfl⟩ := H
        obtain ⟨Ao26, co26, eo26⟩ := Kd.V_slice HO_0.out
        subst eo26
        go_wp2_with (first | (go_at_call 45; (with_reducible refine (spec_KeptAsk.calls k2 _ _ x0_2 _ _ l1 x2_2 a3 t327 t330 t331 t332 t333 t334 t335 _ ?side1 ?side2 ?side3 ?side4 A24.out).mono ?_); (case side1 => exact z_136); (case side2 => exact z_137); (case side3 => exact z_61); (case side4 => exact HC1.out); rintro e w27 ⟨v328, rfl, ho0, hb⟩; have n0_ := Aside0.mk (Kd.V_elder' (z_134) (Kd.Q_base ho0) hb); have n1_ := Aside0.mk (Kd.Q_lower (Kd.Q_newM (M := fun k_ => (w.heap.size ≤ k_)) ho0 (below_size (z_2)) (fun k_ h_ => h_)) (below_size (z_2))); have n2_ := Aside0.mk (below_step (z_2) hb); clear HO_0; clear HB; have HO_0 := n0_; have HO329 := n1_; have HB := n2_; clear n0_ n1_ n2_; (try clear hb); (try clear hb2); (try clear hk); (try clear hi); (try clear ho0)) | ((with_reducible refine gate_dst (N := 13) rfl ?_); refine box_event ?hg (N := 13) ?hd (cs := #[.string (⟨#[]⟩ : ByteArray), .int .i64 0, .int .i64 0, .string (⟨#[]⟩ : ByteArray), .int .i64 0]) (t := 26) ?hr ?_; (case hd => rfl); (case hg => rfl); (case hr => exact z_1); intro gb336 hg w28 hbox hb; have n0_ := Aside0.mk (Kd.V_below (Kd.V_elderB (z_134) gb336 (Nat.le_of_eq hg.symm)) hb); have n1_ := Aside0.mk (Kd.Q_below (z_138) hb); have n2_ := Aside0.mk (below_step (z_2) hb); have n3_ := Aside0.mk (hbox); have n4_ := Aside0.mk ((z_3 : w.heap.size ≤ gb336)); have n5_ := Aside0.mk ((z_3 : w.heap.size ≤ gb336)); clear HO_0; clear HO329; clear HB; have HO_0 := n0_; have HO329 := n1_; have HB := n2_; have BK336 := n3_; have GW336 := n4_; have GE336 := n5_; clear n0_ n1_ n2_ n3_ n4_ n5_; clear hb hbox hg; have hcz29_0 : w28.cell? ⟨gb336, 0, none⟩ = some (.string (⟨#[]⟩ : ByteArray)) := (blk_cell BK336.out 0).trans rfl; have hcz29_1 : w28.cell? ⟨gb336, 1, none⟩ = some (.int .i64 0) := (blk_cell BK336.out 1).trans rfl; have hcz29_2 : w28.cell? ⟨gb336, 2, none⟩ = some (.int .i64 0) := (blk_cell BK336.out 2).trans rfl; have hcz29_3 : w28.cell? ⟨gb336, 3, none⟩ = some (.string (⟨#[]⟩ : ByteArray)) := (blk_cell BK336.out 3).trans rfl; have hcz29_4 : w28.cell? ⟨gb336, 4, none⟩ = some (.int .i64 0) := (blk_cell BK336.out 4).trans rfl; have hfz29_0 := blk_frozen BK336.out 0; have hfz29_1 := blk_frozen BK336.out 1; have hfz29_2 := blk_frozen BK336.out 2; have hfz29_3 := blk_frozen BK336.out 3; have hfz29_4 := blk_frozen BK336.out 4))
        repeat (go_quiet (first | (go_at_call 45; (with_reducible refine (spec_KeptAsk.calls k2 _ _ x0_2 _ _ l1 x2_2 a3 t327 t330 t331 t332 t333 t334 t335 _ ?side1 ?side2 ?side3 ?side4 A24.out).mono ?_); (case side1 => exact z_136); (case side2 => exact z_137); (case side3 => exact z_61); (case side4 => exact HC1.out); rintro e w27 ⟨v328, rfl, ho0, hb⟩; have n0_ := Aside0.mk (Kd.V_elder' (z_134) (Kd.Q_base ho0) hb); have n1_ := Aside0.mk (Kd.Q_lower (Kd.Q_newM (M := fun k_ => (w.heap.size ≤ k_)) ho0 (below_size (z_2)) (fun k_ h_ => h_)) (below_size (z_2))); have n2_ := Aside0.mk (below_step (z_2) hb); clear HO_0; clear HB; have HO_0 := n0_; have HO329 := n1_; have HB := n2_; clear n0_ n1_ n2_; (try clear hb); (try clear hb2); (try clear hk); (try clear hi); (try clear ho0)) | ((with_reducible refine gate_dst (N := 13) rfl ?_); refine box_event ?hg (N := 13) ?hd (cs := #[.string (⟨#[]⟩ : ByteArray), .int .i64 0, .int .i64 0, .string (⟨#[]⟩ : ByteArray), .int .i64 0]) (t := 26) ?hr ?_; (case hd => rfl); (case hg => rfl); (case hr => exact z_1); intro gb336 hg w28 hbox hb; have n0_ := Aside0.mk (Kd.V_below (Kd.V_elderB (z_134) gb336 (Nat.le_of_eq hg.symm)) hb); have n1_ := Aside0.mk (Kd.Q_below (z_138) hb); have n2_ := Aside0.mk (below_step (z_2) hb); have n3_ := Aside0.mk (hbox); have n4_ := Aside0.mk ((z_3 : w.heap.size ≤ gb336)); have n5_ := Aside0.mk ((z_3 : w.heap.size ≤ gb336)); clear HO_0; clear HO329; clear HB; have HO_0 := n0_; have HO329 := n1_; have HB := n2_; have BK336 := n3_; have GW336 := n4_; have GE336 := n5_; clear n0_ n1_ n2_ n3_ n4_ n5_; clear hb hbox hg; have hcz29_0 : w28.cell? ⟨gb336, 0, none⟩ = some (.string (⟨#[]⟩ : ByteArray)) := (blk_cell BK336.out 0).trans rfl; have hcz29_1 : w28.cell? ⟨gb336, 1, none⟩ = some (.int .i64 0) := (blk_cell BK336.out 1).trans rfl; have hcz29_2 : w28.cell? ⟨gb336, 2, none⟩ = some (.int .i64 0) := (blk_cell BK336.out 2).trans rfl; have hcz29_3 : w28.cell? ⟨gb336, 3, none⟩ = some (.string (⟨#[]⟩ : ByteArray)) := (blk_cell BK336.out 3).trans rfl; have hcz29_4 : w28.cell? ⟨gb336, 4, none⟩ = some (.int .i64 0) := (blk_cell BK336.out 4).trans rfl; have hfz29_0 := blk_frozen BK336.out 0; have hfz29_1 := blk_frozen BK336.out 1; have hfz29_2 := blk_frozen BK336.out 2; have hfz29_3 := blk_frozen BK336.out 3; have hfz29_4 := blk_frozen BK336.out 4)); try go_wp2_with (first | (go_at_call 45; (with_reducible refine (spec_KeptAsk.calls k2 _ _ x0_2 _ _ l1 x2_2 a3 t327 t330 t331 t332 t333 t334 t335 _ ?side1 ?side2 ?side3 ?side4 A24.out).mono ?_); (case side1 => exact z_136); (case side2 => exact z_137); (case side3 => exact z_61); (case side4 => exact HC1.out); rintro e w27 ⟨v328, rfl, ho0, hb⟩; have n0_ := Aside0.mk (Kd.V_elder' (z_134) (Kd.Q_base ho0) hb); have n1_ := Aside0.mk (Kd.Q_lower (Kd.Q_newM (M := fun k_ => (w.heap.size ≤ k_)) ho0 (below_size (z_2)) (fun k_ h_ => h_)) (below_size (z_2))); have n2_ := Aside0.mk (below_step (z_2) hb); clear HO_0; clear HB; have HO_0 := n0_; have HO329 := n1_; have HB := n2_; clear n0_ n1_ n2_; (try clear hb); (try clear hb2); (try clear hk); (try clear hi); (try clear ho0)) | ((with_reducible refine gate_dst (N := 13) rfl ?_); refine box_event ?hg (N := 13) ?hd (cs := #[.string (⟨#[]⟩ : ByteArray), .int .i64 0, .int .i64 0, .string (⟨#[]⟩ : ByteArray), .int .i64 0]) (t := 26) ?hr ?_; (case hd => rfl); (case hg => rfl); (case hr => exact z_1); intro gb336 hg w28 hbox hb; have n0_ := Aside0.mk (Kd.V_below (Kd.V_elderB (z_134) gb336 (Nat.le_of_eq hg.symm)) hb); have n1_ := Aside0.mk (Kd.Q_below (z_138) hb); have n2_ := Aside0.mk (below_step (z_2) hb); have n3_ := Aside0.mk (hbox); have n4_ := Aside0.mk ((z_3 : w.heap.size ≤ gb336)); have n5_ := Aside0.mk ((z_3 : w.heap.size ≤ gb336)); clear HO_0; clear HO329; clear HB; have HO_0 := n0_; have HO329 := n1_; have HB := n2_; have BK336 := n3_; have GW336 := n4_; have GE336 := n5_; clear n0_ n1_ n2_ n3_ n4_ n5_; clear hb hbox hg; have hcz29_0 : w28.cell? ⟨gb336, 0, none⟩ = some (.string (⟨#[]⟩ : ByteArray)) := (blk_cell BK336.out 0).trans rfl; have hcz29_1 : w28.cell? ⟨gb336, 1, none⟩ = some (.int .i64 0) := (blk_cell BK336.out 1).trans rfl; have hcz29_2 : w28.cell? ⟨gb336, 2, none⟩ = some (.int .i64 0) := (blk_cell BK336.out 2).trans rfl; have hcz29_3 : w28.cell? ⟨gb336, 3, none⟩ = some (.string (⟨#[]⟩ : ByteArray)) := (blk_cell BK336.out 3).trans rfl; have hcz29_4 : w28.cell? ⟨gb336, 4, none⟩ = some (.int .i64 0) := (blk_cell BK336.out 4).trans rfl; have hfz29_0 := blk_frozen BK336.out 0; have hfz29_1 := blk_frozen BK336.out 1; have hfz29_2 := blk_frozen BK336.out 2; have hfz29_3 := blk_frozen BK336.out 3; have hfz29_4 := blk_frozen BK336.out 4)))
        go_ret3
        exact ⟨_, z_4, Kd.V_mono (Kd.Q_V (z_139)) (fun k_ hk => z_135), z_140⟩
       ·rw [if_neg c25] at H
        have c25b0 : (t331 == 0) = false := beq_eq_false_iff_ne.mpr c25
        have c25b1 : (t331 != 0) = true := bne_iff_ne.mpr c25
        by_cases c30 : t331 = 1
        ·rw [if_pos c30] at H
         have c30b0 : (t331 == 1) = true := beq_iff_eq.mpr c30
         have c30b1 : (t331 != 1) = false := bne_eq_false_iff_eq.mpr c30
         clear c30
         simp only [Option.some.injEq, Prod.mk.injEq] at H
         obtain ⟨rfl, rfl, rfl⟩ := H
         obtain ⟨Ao31, co31, eo31⟩ := Kd.V_slice HO_0.out
         subst eo31
         go_wp2_with (first | (go_at_call 45; (with_reducible refine (spec_KeptAsk.calls k2 _ _ x0_2 _ _ l1 x2_2 a3 t327 t330 t331 t332 t333 t334 t335 _ ?side1 ?side2 ?side3 ?side4 A24.out).mono ?_); (case side1 => exact z_136); (case side2 => exact z_137); (case side3 => exact z_61); (case side4 => exact HC1.out); rintro e w32 ⟨v328, rfl, ho0, hb⟩; have n0_ := Aside0.mk (Kd.V_elder' (z_134) (Kd.Q_base ho0) hb); have n1_ := Aside0.mk (Kd.Q_lower (Kd.Q_newM (M := fun k_ => (w.heap.size ≤ k_)) ho0 (below_size (z_2)) (fun k_ h_ => h_)) (below_size (z_2))); have n2_ := Aside0.mk (below_step (z_2) hb); clear HO_0; clear HB; have HO_0 := n0_; have HO329 := n1_; have HB := n2_; clear n0_ n1_ n2_; (try clear hb); (try clear hb2); (try clear hk); (try clear hi); (try clear ho0)) | ((with_reducible refine gate_dst (N := 13) rfl ?_); refine box_event ?hg (N := 13) ?hd (cs := #[.string (⟨#[]⟩ : ByteArray), .int .i64 0, .int .i64 0, .string (⟨#[]⟩ : ByteArray), .int .i64 0]) (t := 26) ?hr ?_; (case hd => rfl); (case hg => rfl); (case hr => exact z_1); intro gb336 hg w33 hbox hb; have n0_ := Aside0.mk (Kd.V_below (Kd.V_elderB (z_134) gb336 (Nat.le_of_eq hg.symm)) hb); have n1_ := Aside0.mk (Kd.Q_below (z_138) hb); have n2_ := Aside0.mk (below_step (z_2) hb); have n3_ := Aside0.mk (hbox); have n4_ := Aside0.mk ((z_3 : w.heap.size ≤ gb336)); have n5_ := Aside0.mk ((z_3 : w.heap.size ≤ gb336)); clear HO_0; clear HO329; clear HB; have HO_0 := n0_; have HO329 := n1_; have HB := n2_; have BK336 := n3_; have GW336 := n4_; have GE336 := n5_; clear n0_ n1_ n2_ n3_ n4_ n5_; clear hb hbox hg; have hcz34_0 : w33.cell? ⟨gb336, 0, none⟩ = some (.string (⟨#[]⟩ : ByteArray)) := (blk_cell BK336.out 0).trans rfl; have hcz34_1 : w33.cell? ⟨gb336, 1, none⟩ = some (.int .i64 0) := (blk_cell BK336.out 1).trans rfl; have hcz34_2 : w33.cell? ⟨gb336, 2, none⟩ = some (.int .i64 0) := (blk_cell BK336.out 2).trans rfl; have hcz34_3 : w33.cell? ⟨gb336, 3, none⟩ = some (.string (⟨#[]⟩ : ByteArray)) := (blk_cell BK336.out 3).trans rfl; have hcz34_4 : w33.cell? ⟨gb336, 4, none⟩ = some (.int .i64 0) := (blk_cell BK336.out 4).trans rfl; have hfz34_0 := blk_frozen BK336.out 0; have hfz34_1 := blk_frozen BK336.out 1; have hfz34_2 := blk_frozen BK336.out 2; have hfz34_3 := blk_frozen BK336.out 3; have hfz34_4 := blk_frozen BK336.out 4))
         repeat (go_quiet (first | (go_at_call 45; (with_reducible refine (spec_KeptAsk.calls k2 _ _ x0_2 _ _ l1 x2_2 a3 t327 t330 t331 t332 t333 t334 t335 _ ?side1 ?side2 ?side3 ?side4 A24.out).mono ?_); (case side1 => exact z_136); (case side2 => exact z_137); (case side3 => exact z_61); (case side4 => exact HC1.out); rintro e w32 ⟨v328, rfl, ho0, hb⟩; have n0_ := Aside0.mk (Kd.V_elder' (z_134) (Kd.Q_base ho0) hb); have n1_ := Aside0.mk (Kd.Q_lower (Kd.Q_newM (M := fun k_ => (w.heap.size ≤ k_)) ho0 (below_size (z_2)) (fun k_ h_ => h_)) (below_size (z_2))); have n2_ := Aside0.mk (below_step (z_2) hb); clear HO_0; clear HB; have HO_0 := n0_; have HO329 := n1_; have HB := n2_; clear n0_ n1_ n2_; (try clear hb); (try clear hb2); (try clear hk); (try clear hi); (try clear ho0)) | ((with_reducible refine gate_dst (N := 13) rfl ?_); refine box_event ?hg (N := 13) ?hd (cs := #[.string (⟨#[]⟩ : ByteArray), .int .i64 0, .int .i64 0, .string (⟨#[]⟩ : ByteArray), .int .i64 0]) (t := 26) ?hr ?_; (case hd => rfl); (case hg => rfl); (case hr => exact z_1); intro gb336 hg w33 hbox hb; have n0_ := Aside0.mk (Kd.V_below (Kd.V_elderB (z_134) gb336 (Nat.le_of_eq hg.symm)) hb); have n1_ := Aside0.mk (Kd.Q_below (z_138) hb); have n2_ := Aside0.mk (below_step (z_2) hb); have n3_ := Aside0.mk (hbox); have n4_ := Aside0.mk ((z_3 : w.heap.size ≤ gb336)); have n5_ := Aside0.mk ((z_3 : w.heap.size ≤ gb336)); clear HO_0; clear HO329; clear HB; have HO_0 := n0_; have HO329 := n1_; have HB := n2_; have BK336 := n3_; have GW336 := n4_; have GE336 := n5_; clear n0_ n1_ n2_ n3_ n4_ n5_; clear hb hbox hg; have hcz34_0 : w33.cell? ⟨gb336, 0, none⟩ = some (.string (⟨#[]⟩ : ByteArray)) := (blk_cell BK336.out 0).trans rfl; have hcz34_1 : w33.cell? ⟨gb336, 1, none⟩ = some (.int .i64 0) := (blk_cell BK336.out 1).trans rfl; have hcz34_2 : w33.cell? ⟨gb336, 2, none⟩ = some (.int .i64 0) := (blk_cell BK336.out 2).trans rfl; have hcz34_3 : w33.cell? ⟨gb336, 3, none⟩ = some (.string (⟨#[]⟩ : ByteArray)) := (blk_cell BK336.out 3).trans rfl; have hcz34_4 : w33.cell? ⟨gb336, 4, none⟩ = some (.int .i64 0) := (blk_cell BK336.out 4).trans rfl; have hfz34_0 := blk_frozen BK336.out 0; have hfz34_1 := blk_frozen BK336.out 1; have hfz34_2 := blk_frozen BK336.out 2; have hfz34_3 := blk_frozen BK336.out 3; have hfz34_4 := blk_frozen BK336.out 4)); try go_wp2_with (first | (go_at_call 45; (with_reducible refine (spec_KeptAsk.calls k2 _ _ x0_2 _ _ l1 x2_2 a3 t327 t330 t331 t332 t333 t334 t335 _ ?side1 ?side2 ?side3 ?side4 A24.out).mono ?_); (case side1 => exact z_136); (case side2 => exact z_137); (case side3 => exact z_61); (case side4 => exact HC1.out); rintro e w32 ⟨v328, rfl, ho0, hb⟩; have n0_ := Aside0.mk (Kd.V_elder' (z_134) (Kd.Q_base ho0) hb); have n1_ := Aside0.mk (Kd.Q_lower (Kd.Q_newM (M := fun k_ => (w.heap.size ≤ k_)) ho0 (below_size (z_2)) (fun k_ h_ => h_)) (below_size (z_2))); have n2_ := Aside0.mk (below_step (z_2) hb); clear HO_0; clear HB; have HO_0 := n0_; have HO329 := n1_; have HB := n2_; clear n0_ n1_ n2_; (try clear hb); (try clear hb2); (try clear hk); (try clear hi); (try clear ho0)) | ((with_reducible refine gate_dst (N := 13) rfl ?_); refine box_event ?hg (N := 13) ?hd (cs := #[.string (⟨#[]⟩ : ByteArray), .int .i64 0, .int .i64 0, .string (⟨#[]⟩ : ByteArray), .int .i64 0]) (t := 26) ?hr ?_; (case hd => rfl); (case hg => rfl); (case hr => exact z_1); intro gb336 hg w33 hbox hb; have n0_ := Aside0.mk (Kd.V_below (Kd.V_elderB (z_134) gb336 (Nat.le_of_eq hg.symm)) hb); have n1_ := Aside0.mk (Kd.Q_below (z_138) hb); have n2_ := Aside0.mk (below_step (z_2) hb); have n3_ := Aside0.mk (hbox); have n4_ := Aside0.mk ((z_3 : w.heap.size ≤ gb336)); have n5_ := Aside0.mk ((z_3 : w.heap.size ≤ gb336)); clear HO_0; clear HO329; clear HB; have HO_0 := n0_; have HO329 := n1_; have HB := n2_; have BK336 := n3_; have GW336 := n4_; have GE336 := n5_; clear n0_ n1_ n2_ n3_ n4_ n5_; clear hb hbox hg; have hcz34_0 : w33.cell? ⟨gb336, 0, none⟩ = some (.string (⟨#[]⟩ : ByteArray)) := (blk_cell BK336.out 0).trans rfl; have hcz34_1 : w33.cell? ⟨gb336, 1, none⟩ = some (.int .i64 0) := (blk_cell BK336.out 1).trans rfl; have hcz34_2 : w33.cell? ⟨gb336, 2, none⟩ = some (.int .i64 0) := (blk_cell BK336.out 2).trans rfl; have hcz34_3 : w33.cell? ⟨gb336, 3, none⟩ = some (.string (⟨#[]⟩ : ByteArray)) := (blk_cell BK336.out 3).trans rfl; have hcz34_4 : w33.cell? ⟨gb336, 4, none⟩ = some (.int .i64 0) := (blk_cell BK336.out 4).trans rfl; have hfz34_0 := blk_frozen BK336.out 0; have hfz34_1 := blk_frozen BK336.out 1; have hfz34_2 := blk_frozen BK336.out 2; have hfz34_3 := blk_frozen BK336.out 3; have hfz34_4 := blk_frozen BK336.out 4)))
         go_ret3
         exact ⟨_, z_4, Kd.V_mono (Kd.Q_V (z_139)) (fun k_ hk => z_135), z_140⟩
        ·rw [if_neg c30] at H
         have c30b0 : (t331 == 1) = false := beq_eq_false_iff_ne.mpr c30
         have c30b1 : (t331 != 1) = true := bne_iff_ne.mpr c30
         have H' := Aside0.mk H
         clear H
         obtain ⟨Ao35, co35, eo35⟩ := Kd.V_slice HO_0.out
         subst eo35
         go_wp2_with (first | (go_at_call 45; (with_reducible refine (spec_KeptAsk.calls k2 _ _ x0_2 _ _ l1 x2_2 a3 t327 t330 t331 t332 t333 t334 t335 _ ?side1 ?side2 ?side3 ?side4 A24.out).mono ?_); (case side1 => exact z_136); (case side2 => exact z_137); (case side3 => exact z_61); (case side4 => exact HC1.out); rintro e w36 ⟨v328, rfl, ho0, hb⟩; have n0_ := Aside0.mk (Kd.V_elder' (z_134) (Kd.Q_base ho0) hb); have n1_ := Aside0.mk (Kd.Q_lower (Kd.Q_newM (M := fun k_ => (w.heap.size ≤ k_)) ho0 (below_size (z_2)) (fun k_ h_ => h_)) (below_size (z_2))); have n2_ := Aside0.mk (below_step (z_2) hb); clear HO_0; clear HB; have HO_0 := n0_; have HO329 := n1_; have HB := n2_; clear n0_ n1_ n2_; (try clear hb); (try clear hb2); (try clear hk); (try clear hi); (try clear ho0)) | ((with_reducible refine gate_dst (N := 13) rfl ?_); refine box_event ?hg (N := 13) ?hd (cs := #[.string (⟨#[]⟩ : ByteArray), .int .i64 0, .int .i64 0, .string (⟨#[]⟩ : ByteArray), .int .i64 0]) (t := 26) ?hr ?_; (case hd => rfl); (case hg => rfl); (case hr => exact z_1); intro gb336 hg w37 hbox hb; have n0_ := Aside0.mk (Kd.V_below (Kd.V_elderB (z_134) gb336 (Nat.le_of_eq hg.symm)) hb); have n1_ := Aside0.mk (Kd.Q_below (z_138) hb); have n2_ := Aside0.mk (below_step (z_2) hb); have n3_ := Aside0.mk (hbox); have n4_ := Aside0.mk ((z_3 : w.heap.size ≤ gb336)); have n5_ := Aside0.mk ((z_3 : w.heap.size ≤ gb336)); clear HO_0; clear HO329; clear HB; have HO_0 := n0_; have HO329 := n1_; have HB := n2_; have BK336 := n3_; have GW336 := n4_; have GE336 := n5_; clear n0_ n1_ n2_ n3_ n4_ n5_; clear hb hbox hg; have hcz38_0 : w37.cell? ⟨gb336, 0, none⟩ = some (.string (⟨#[]⟩ : ByteArray)) := (blk_cell BK336.out 0).trans rfl; have hcz38_1 : w37.cell? ⟨gb336, 1, none⟩ = some (.int .i64 0) := (blk_cell BK336.out 1).trans rfl; have hcz38_2 : w37.cell? ⟨gb336, 2, none⟩ = some (.int .i64 0) := (blk_cell BK336.out 2).trans rfl; have hcz38_3 : w37.cell? ⟨gb336, 3, none⟩ = some (.string (⟨#[]⟩ : ByteArray)) := (blk_cell BK336.out 3).trans rfl; have hcz38_4 : w37.cell? ⟨gb336, 4, none⟩ = some (.int .i64 0) := (blk_cell BK336.out 4).trans rfl; have hfz38_0 := blk_frozen BK336.out 0; have hfz38_1 := blk_frozen BK336.out 1; have hfz38_2 := blk_frozen BK336.out 2; have hfz38_3 := blk_frozen BK336.out 3; have hfz38_4 := blk_frozen BK336.out 4))
         repeat (go_quiet (first | (go_at_call 45; (with_reducible refine (spec_KeptAsk.calls k2 _ _ x0_2 _ _ l1 x2_2 a3 t327 t330 t331 t332 t333 t334 t335 _ ?side1 ?side2 ?side3 ?side4 A24.out).mono ?_); (case side1 => exact z_136); (case side2 => exact z_137); (case side3 => exact z_61); (case side4 => exact HC1.out); rintro e w36 ⟨v328, rfl, ho0, hb⟩; have n0_ := Aside0.mk (Kd.V_elder' (z_134) (Kd.Q_base ho0) hb); have n1_ := Aside0.mk (Kd.Q_lower (Kd.Q_newM (M := fun k_ => (w.heap.size ≤ k_)) ho0 (below_size (z_2)) (fun k_ h_ => h_)) (below_size (z_2))); have n2_ := Aside0.mk (below_step (z_2) hb); clear HO_0; clear HB; have HO_0 := n0_; have HO329 := n1_; have HB := n2_; clear n0_ n1_ n2_; (try clear hb); (try clear hb2); (try clear hk); (try clear hi); (try clear ho0)) | ((with_reducible refine gate_dst (N := 13) rfl ?_); refine box_event ?hg (N := 13) ?hd (cs := #[.string (⟨#[]⟩ : ByteArray), .int .i64 0, .int .i64 0, .string (⟨#[]⟩ : ByteArray), .int .i64 0]) (t := 26) ?hr ?_; (case hd => rfl); (case hg => rfl); (case hr => exact z_1); intro gb336 hg w37 hbox hb; have n0_ := Aside0.mk (Kd.V_below (Kd.V_elderB (z_134) gb336 (Nat.le_of_eq hg.symm)) hb); have n1_ := Aside0.mk (Kd.Q_below (z_138) hb); have n2_ := Aside0.mk (below_step (z_2) hb); have n3_ := Aside0.mk (hbox); have n4_ := Aside0.mk ((z_3 : w.heap.size ≤ gb336)); have n5_ := Aside0.mk ((z_3 : w.heap.size ≤ gb336)); clear HO_0; clear HO329; clear HB; have HO_0 := n0_; have HO329 := n1_; have HB := n2_; have BK336 := n3_; have GW336 := n4_; have GE336 := n5_; clear n0_ n1_ n2_ n3_ n4_ n5_; clear hb hbox hg; have hcz38_0 : w37.cell? ⟨gb336, 0, none⟩ = some (.string (⟨#[]⟩ : ByteArray)) := (blk_cell BK336.out 0).trans rfl; have hcz38_1 : w37.cell? ⟨gb336, 1, none⟩ = some (.int .i64 0) := (blk_cell BK336.out 1).trans rfl; have hcz38_2 : w37.cell? ⟨gb336, 2, none⟩ = some (.int .i64 0) := (blk_cell BK336.out 2).trans rfl; have hcz38_3 : w37.cell? ⟨gb336, 3, none⟩ = some (.string (⟨#[]⟩ : ByteArray)) := (blk_cell BK336.out 3).trans rfl; have hcz38_4 : w37.cell? ⟨gb336, 4, none⟩ = some (.int .i64 0) := (blk_cell BK336.out 4).trans rfl; have hfz38_0 := blk_frozen BK336.out 0; have hfz38_1 := blk_frozen BK336.out 1; have hfz38_2 := blk_frozen BK336.out 2; have hfz38_3 := blk_frozen BK336.out 3; have hfz38_4 := blk_frozen BK336.out 4)); try go_wp2_with (first | (go_at_call 45; (with_reducible refine (spec_KeptAsk.calls k2 _ _ x0_2 _ _ l1 x2_2 a3 t327 t330 t331 t332 t333 t334 t335 _ ?side1 ?side2 ?side3 ?side4 A24.out).mono ?_); (case side1 => exact z_136); (case side2 => exact z_137); (case side3 => exact z_61); (case side4 => exact HC1.out); rintro e w36 ⟨v328, rfl, ho0, hb⟩; have n0_ := Aside0.mk (Kd.V_elder' (z_134) (Kd.Q_base ho0) hb); have n1_ := Aside0.mk (Kd.Q_lower (Kd.Q_newM (M := fun k_ => (w.heap.size ≤ k_)) ho0 (below_size (z_2)) (fun k_ h_ => h_)) (below_size (z_2))); have n2_ := Aside0.mk (below_step (z_2) hb); clear HO_0; clear HB; have HO_0 := n0_; have HO329 := n1_; have HB := n2_; clear n0_ n1_ n2_; (try clear hb); (try clear hb2); (try clear hk); (try clear hi); (try clear ho0)) | ((with_reducible refine gate_dst (N := 13) rfl ?_); refine box_event ?hg (N := 13) ?hd (cs := #[.string (⟨#[]⟩ : ByteArray), .int .i64 0, .int .i64 0, .string (⟨#[]⟩ : ByteArray), .int .i64 0]) (t := 26) ?hr ?_; (case hd => rfl); (case hg => rfl); (case hr => exact z_1); intro gb336 hg w37 hbox hb; have n0_ := Aside0.mk (Kd.V_below (Kd.V_elderB (z_134) gb336 (Nat.le_of_eq hg.symm)) hb); have n1_ := Aside0.mk (Kd.Q_below (z_138) hb); have n2_ := Aside0.mk (below_step (z_2) hb); have n3_ := Aside0.mk (hbox); have n4_ := Aside0.mk ((z_3 : w.heap.size ≤ gb336)); have n5_ := Aside0.mk ((z_3 : w.heap.size ≤ gb336)); clear HO_0; clear HO329; clear HB; have HO_0 := n0_; have HO329 := n1_; have HB := n2_; have BK336 := n3_; have GW336 := n4_; have GE336 := n5_; clear n0_ n1_ n2_ n3_ n4_ n5_; clear hb hbox hg; have hcz38_0 : w37.cell? ⟨gb336, 0, none⟩ = some (.string (⟨#[]⟩ : ByteArray)) := (blk_cell BK336.out 0).trans rfl; have hcz38_1 : w37.cell? ⟨gb336, 1, none⟩ = some (.int .i64 0) := (blk_cell BK336.out 1).trans rfl; have hcz38_2 : w37.cell? ⟨gb336, 2, none⟩ = some (.int .i64 0) := (blk_cell BK336.out 2).trans rfl; have hcz38_3 : w37.cell? ⟨gb336, 3, none⟩ = some (.string (⟨#[]⟩ : ByteArray)) := (blk_cell BK336.out 3).trans rfl; have hcz38_4 : w37.cell? ⟨gb336, 4, none⟩ = some (.int .i64 0) := (blk_cell BK336.out 4).trans rfl; have hfz38_0 := blk_frozen BK336.out 0; have hfz38_1 := blk_frozen BK336.out 1; have hfz38_2 := blk_frozen BK336.out 2; have hfz38_3 := blk_frozen BK336.out 3; have hfz38_4 := blk_frozen BK336.out 4)))
         go_roundg k2
         case measure => have := HJ4.out; have := HK2.out; omega
         case rel => exact ⟨(t327), (t333), (wrap64 (x11_2 + 1)), (z_6), (z_6), H', ⟨by have := HJ4.out; have := HK2.out; omega⟩, ⟨Kd.V_mono (Kd.Q_V (z_139)) (fun k_ hk => z_135)⟩, ⟨z_140⟩⟩
      ·rw [if_neg c23] at H
       have c23b0 : decide (x11_2 ≤ 4) = false := decide_eq_false c23
       clear c23
       simp only [Option.some.injEq, Prod.mk.injEq] at H
       obtain ⟨rfl, rfl, rfl⟩ := H
       go_wp2
       repeat (go_quiet (fail); try go_wp2)
       go_ret3
       exact ⟨_, z_4, z_134, z_2⟩

/-! ### laws_markText: function 77 -/
def laws_markText.l0 : Nat → Int → ByteArray → Option (ByteArray)
 | 0, _, _ => none
 | k + 1, x0, x3 => if x0 > 0 then ((some (([(wrap64 (48 + (Int.tmod x0 10))) % 256] : List Int) : List Int)).bind fun y337 => (if (strOfNums y337).size + x3.size ≤ 9223372036854775807 then (laws_markText.l0 k (wrap64 (Int.tdiv x0 10)) ((strOfNums y337) ++ x3)) else (none))) else (if 1 + x3.size ≤ 9223372036854775807 then (some ((⟨#[109]⟩ : ByteArray) ++ x3)) else (none))
def laws_markText.f (k : Nat) (a0 : Int) : Option (ByteArray) := if a0 ≤ 0 then (some (⟨#[109, 48]⟩ : ByteArray)) else (laws_markText.l0 k a0 (⟨#[]⟩ : ByteArray))
theorem laws_markText.mono_l : ∀ k, (∀ y0 y1, LeO (laws_markText.l0 k y0 y1) (laws_markText.l0 (k + 1) y0 y1))
 | 0 => fun _ _ r h => by simp [laws_markText.l0] at h
 | k + 1 => by
  have ih0 := laws_markText.mono_l k
  ·intro y0 y1
   unfold laws_markText.l0
   repeat' first
   | (with_reducible exact ih0 _ _)
   | (with_reducible exact LeO.refl _)
   | (with_reducible exact LeO.none _)
   | (with_reducible refine LeO.ite ?_ ?_)
   | (with_reducible refine LeO.bind ?_ (fun _ => ?_))
   | exact ih0 _ _
   | exact LeO.none _
   | refine LeO.ite ?_ ?_
   | refine LeO.bind ?_ (fun _ => ?_)
theorem laws_markText.mono : ∀ a0 k, LeO (laws_markText.f k a0) (laws_markText.f (k + 1) a0) := by
 intro a0 k
 have ih0 := laws_markText.mono_l k
 unfold laws_markText.f
 repeat' first
   | (with_reducible exact ih0 _ _)
   | (with_reducible exact LeO.refl _)
   | (with_reducible exact LeO.none _)
   | (with_reducible refine LeO.ite ?_ ?_)
   | (with_reducible refine LeO.bind ?_ (fun _ => ?_))
   | exact ih0 _ _
   | exact LeO.none _
   | refine LeO.ite ?_ ?_
   | refine LeO.bind ?_ (fun _ => ?_)
set_option maxHeartbeats 8000000 in
set_option maxRecDepth 100000 in
theorem laws_markText.calls (k : Nat) (a0 : Int) (r : ByteArray) (w : World) (h : laws_markText.f k a0 = some r) :
  Calls Try.prog 77 #[.int .i64 a0] w fun e w' => e = .returned (.string r) ∧ Below w.heap.size w w' := by
 have HB := Aside0.mk (Below.refl w.heap.size w)
 have H : (if a0 ≤ 0 then (some (⟨#[109, 48]⟩ : ByteArray)) else (laws_markText.l0 k a0 (⟨#[]⟩ : ByteArray))) = some r := h
 clear h
 by_cases c2 : a0 ≤ 0
 ·rw [if_pos c2] at H
  have c2b0 : decide (a0 ≤ 0) = true := decide_eq_true c2
  clear c2
  obtain rfl := Option.some.inj H
  go_enter Try.func77, Try.ntmps77
  go_wp2
  go_ret
  exact ⟨z_4, z_2⟩
 ·rw [if_neg c2] at H
  have c2b0 : decide (a0 ≤ 0) = false := decide_eq_false c2
  clear c2
  have H' := Aside0.mk H
  clear H
  go_enter Try.func77, Try.ntmps77
  go_wp2
  go_loopg [0, 3] k (fun kq v0 v3 w' => ∃ (x0_1 : Int) (x3_1 : ByteArray), v0 = .int .i64 x0_1 ∧ v3 = .string x3_1 ∧ Aside0 (laws_markText.l0 kq x0_1 x3_1 = some r) ∧ Aside0 (kq ≤ k) ∧ Aside0 (Below w.heap.size w w'))
  case atStart => exact ⟨(a0), ((⟨#[]⟩ : ByteArray)), (z_6), (z_6), H', ⟨Nat.le_refl _⟩, ⟨z_2⟩⟩
  case round =>
   clear H'
   try clear c2
   try clear c2b0
   try clear p2
   obtain ⟨x0_1, x3_1, rfl, rfl, HA, HK1, HB⟩ := hrel
   cases gk with
   | zero => exact absurd HA.out (by simp [laws_markText.l0])
   | succ k1 =>
    have H := HA.out
    clear HA
    simp only [laws_markText.l0] at H
    by_cases c3 : x0_1 > 0
    ·rw [if_pos c3] at H
     have c3b0 : decide (0 < x0_1) = true := decide_eq_true c3
     clear c3
     obtain ⟨y337, hy337⟩ : ∃ y_ : List Int, y_ = (([(wrap64 (48 + (Int.tmod x0_1 10))) % 256] : List Int)) := ⟨_, rfl⟩
     replace H : (if (strOfNums y337).size + x3_1.size ≤ 9223372036854775807 then (laws_markText.l0 k1 (wrap64 (Int.tdiv x0_1 10)) ((strOfNums y337) ++ x3_1)) else (none)) = some r := by first | (rw [hy337]; with_reducible exact H) | (have H2_ := (Option.bind_some _ _).symm.trans H; rw [hy337]; with_reducible exact H2_) | (have H2_ := (Option.bind_some _ _).symm.trans H; with_reducible exact H2_) | with_reducible exact H | (rw [hy337]; exact H) | exact H
     have Ny337 := Aside0.mk hy337
     clear hy337
     by_cases c4 : (strOfNums y337).size + x3_1.size ≤ 9223372036854775807
     ·rw [if_pos c4] at H
      have c4b0 := eq_true c4
      have c4b1 : decide ((strOfNums y337).size + x3_1.size ≤ 9223372036854775807) = true := decide_eq_true c4
      try have c4b2 : (9223372036854775807 < (strOfNums y337).size + x3_1.size) = False := eq_false (Nat.not_lt.2 c4)
      have H' := Aside0.mk H
      clear H
      go_wp2_with (first | ((with_reducible refine gate_dst (N := 12) rfl ?_); refine Kd.R_lit (Kd.int .u8) _ 5 ?hg (N := 12) ?hd (xs := ([(wrap64 (48 + (Int.tmod x0_1 10))) % 256] : List Int)) (inner := [.int .u8 ((wrap64 (48 + (Int.tmod x0_1 10))) % 256)]) (ok := fun _ => True) (okp := fun _ => True) ?hr ?hp (fun _ hk => hk) trivial (Below.refl _ _) (Nat.le_refl _) (z_10) ?_; (case hd => rfl); (case hg => rfl); (case hr => exact z_1); (case hp => exact (Reps.one (show Kd.M (Kd.int .u8) _ _ _ ((wrap64 (48 + (Int.tmod x0_1 10))) % 256) [.int .u8 ((wrap64 (48 + (Int.tmod x0_1 10))) % 256)] from rfl) (Reps.none _ _))); intro v338 w5 ho6 hb hg_ hnew_; clear hg_ hnew_; (first | rw [← Ny337.out] at ho6 | (simp only [Int.reduceToNat] at ho6; rw [← Ny337.out] at ho6)); have n0_ := Aside0.mk (Kd.R_lower ho6 (below_size (z_2))); have n1_ := Aside0.mk (below_step (z_2) hb); clear HB; have HO339 := n0_; have HB := n1_; clear n0_ n1_; clear hb ho6; have hcv7 := own_string (P := Try.prog) Try.underlying29 Try.underlying5 Try.underlying9 (Kd.own_of_R HO339.out)))
      go_roundg k1
      case measure => have := HK1.out; omega
      case rel => exact ⟨(wrap64 (Int.tdiv x0_1 10)), ((strOfNums y337) ++ x3_1), (z_6), (z_6), H', ⟨z_9⟩, ⟨z_2⟩⟩
     ·rw [if_neg c4] at H
      exact absurd H (z_10)
    ·rw [if_neg c3] at H
     have c3b0 : decide (0 < x0_1) = false := decide_eq_false c3
     clear c3
     by_cases c8 : 1 + x3_1.size ≤ 9223372036854775807
     ·rw [if_pos c8] at H
      have c8b0 := eq_true c8
      have c8b1 : decide (1 + x3_1.size ≤ 9223372036854775807) = true := decide_eq_true c8
      try have c8b2 : (9223372036854775807 < 1 + x3_1.size) = False := eq_false (Nat.not_lt.2 c8)
      obtain rfl := Option.some.inj H
      go_wp2
      go_ret
      exact ⟨z_4, z_2⟩
     ·rw [if_neg c8] at H
      exact absurd H (z_10)

/-! ### laws_markKeptS: function 51 -/
def laws_markKeptS.l0 : Nat → List (S83) → Int → Int → Option (Int × (List (S83)))
 | 0, _, _, _ => none
 | k + 1, x0, x1, x5 => if x5 < (x0.length : Int) then ((laws_markText.f k x1).bind fun t340 => ((laws_markText.f k (wrap64 ((wrap64 ((wrap64 (x1 + 1)) + 1)) + 1))).bind fun t341 => (if 0 ≤ x5 then (laws_markKeptS.l0 k (x0.set (x5 : Int).toNat (⟨(⟨t340, wrap64 (x1 + 1), wrap64 ((wrap64 (x1 + 1)) + 1), t341, wrap64 ((wrap64 ((wrap64 ((wrap64 (x1 + 1)) + 1)) + 1)) + 1)⟩ : S26), wrap64 ((wrap64 ((wrap64 ((wrap64 ((wrap64 (x1 + 1)) + 1)) + 1)) + 1)) + 1)⟩ : S83)) (wrap64 ((wrap64 ((wrap64 ((wrap64 ((wrap64 ((wrap64 (x1 + 1)) + 1)) + 1)) + 1)) + 1)) + 1)) (wrap64 (x5 + 1))) else (none)))) else (some (x1, x0))
def laws_markKeptS.f (k : Nat) (l0 : List (S83)) (a1 : Int) : Option (Int × (List (S83))) := laws_markKeptS.l0 k l0 a1 0
theorem laws_markKeptS.mono_l : ∀ k, (∀ y0 y1 y2, LeO (laws_markKeptS.l0 k y0 y1 y2) (laws_markKeptS.l0 (k + 1) y0 y1 y2))
 | 0 => fun _ _ _ r h => by simp [laws_markKeptS.l0] at h
 | k + 1 => by
  have ih0 := laws_markKeptS.mono_l k
  ·intro y0 y1 y2
   unfold laws_markKeptS.l0
   repeat' first
   | (with_reducible exact ih0 _ _ _)
   | (with_reducible exact laws_markText.mono _ _)
   | (with_reducible exact LeO.refl _)
   | (with_reducible exact LeO.none _)
   | (with_reducible refine LeO.ite ?_ ?_)
   | (with_reducible refine LeO.bind ?_ (fun _ => ?_))
   | exact ih0 _ _ _
   | exact laws_markText.mono _ _
   | exact LeO.none _
   | refine LeO.ite ?_ ?_
   | refine LeO.bind ?_ (fun _ => ?_)
theorem laws_markKeptS.mono : ∀ a0 a1 k, LeO (laws_markKeptS.f k a0 a1) (laws_markKeptS.f (k + 1) a0 a1) := by
 intro a0 a1 k
 have ih0 := laws_markKeptS.mono_l k
 unfold laws_markKeptS.f
 repeat' first
   | (with_reducible exact ih0 _ _ _)
   | (with_reducible exact laws_markText.mono _ _)
   | (with_reducible exact LeO.refl _)
   | (with_reducible exact LeO.none _)
   | (with_reducible refine LeO.ite ?_ ?_)
   | (with_reducible refine LeO.bind ?_ (fun _ => ?_))
   | exact ih0 _ _ _
   | exact laws_markText.mono _ _
   | exact LeO.none _
   | refine LeO.ite ?_ ?_
   | refine LeO.bind ?_ (fun _ => ?_)
theorem rdset_ (l : List S83) (v : S83) {i : Int} (h0 : 0 ≤ i) (h1 : i < l.length) : (l.set i.toNat v).getD i.toNat z83 = v := by
 rw [List.getD_eq_getElem?_getD, List.getElem?_set, if_pos rfl, if_pos (z_20)]; rfl
set_option maxHeartbeats 8000000 in
set_option maxRecDepth 100000 in
theorem laws_markKeptS.calls (k : Nat) (P0_ : Nat → Prop) (u9000_ : Value) (l0 : List (S83)) (a1 : Int) (r1 : Int) (r2 : List (S83)) (w0 w : World) (hB : Below w0.heap.size w0 w) (ho0 : Kd.R k83 83 w w0.heap.size P0_ u9000_ l0) (h : laws_markKeptS.f k l0 a1 = some (r1, r2)) :
  Calls Try.prog 51 #[u9000_, .int .i64 a1] w fun e w' => e = .returned (.int .i64 r1) ∧ Kd.R k83 83 w' w0.heap.size (fun k_ => (P0_ k_ ∨ w.heap.size ≤ k_)) u9000_ r2 ∧ Below w0.heap.size w0 w' ∧ Kept w w' (fun k_ => P0_ k_) := by
 have hu26 := Try.underlying26
 have hu83 := Try.underlying83
 have HO0 := Aside0.mk (show Kd.R k83 83 w w0.heap.size (fun k_ => (P0_ k_ ∨ w.heap.size ≤ k_)) u9000_ l0 from Kd.R_mono ho0 (fun k_ hk => (.inl hk)))
 have HK := Aside0.mk (Kept.refl w (fun k_ => P0_ k_))
 have HW0 := Aside0.mk hB.size
 have HB := Aside0.mk hB
 clear hB
 have H : (laws_markKeptS.l0 k l0 a1 0) = some (r1, r2) := h
 clear h
 have H' := Aside0.mk H
 clear H
 go_enter Try.func51, Try.ntmps51
 go_wp2
 go_loopg [1, 5] k (fun kq v1 v5 w' => ∃ (x0_1 : List (S83)) (x1_1 : Int) (x5_1 : Int), v1 = .int .i64 x1_1 ∧ v5 = .int .i64 x5_1 ∧ Aside0 (laws_markKeptS.l0 kq x0_1 x1_1 x5_1 = some (r1, r2)) ∧ Aside0 (kq ≤ k) ∧ Aside0 (Kd.R k83 83 w' w0.heap.size (fun k_ => (P0_ k_ ∨ w.heap.size ≤ k_)) u9000_ x0_1) ∧ Aside0 (Kept w w' (fun k_ => P0_ k_)) ∧ Aside0 (Below w0.heap.size w0 w'))
 case atStart => exact ⟨(l0), (a1), (0), (z_6), (z_6), H', ⟨Nat.le_refl _⟩, ⟨z_141⟩, ⟨z_142⟩, ⟨z_2⟩⟩
 case round =>
  clear H'
  try clear p2
  obtain ⟨x0_1, x1_1, x5_1, rfl, rfl, HA, HK1, HO_0, HK, HB⟩ := hrel
  cases gk with
  | zero => exact absurd HA.out (by simp [laws_markKeptS.l0])
  | succ k1 =>
   have H := HA.out
   clear HA
   simp only [laws_markKeptS.l0] at H
   by_cases c3 : x5_1 < (x0_1.length : Int)
   ·rw [if_pos c3] at H
    have c3b0 : decide (x5_1 < (x0_1.length : Int)) = true := decide_eq_true c3
    clear c3
    replace H := Option.bind_eq_some_iff.mp H
    obtain ⟨t340, A40, H⟩ := H
    have A4 := Aside0.mk A40
    clear A40
    replace H := Option.bind_eq_some_iff.mp H
    obtain ⟨t341, A50, H⟩ := H
    have A5 := Aside0.mk A50
    clear A50
    by_cases c6 : 0 ≤ x5_1
    ·rw [if_pos c6] at H
     have c6b0 : decide (0 ≤ x5_1) = true := decide_eq_true c6
     clear c6
     obtain ⟨y342, hy342⟩ : ∃ y_ : List (S83), y_ = (x0_1.set (x5_1 : Int).toNat (⟨(⟨t340, wrap64 (x1_1 + 1), wrap64 ((wrap64 (x1_1 + 1)) + 1), t341, wrap64 ((wrap64 ((wrap64 ((wrap64 (x1_1 + 1)) + 1)) + 1)) + 1)⟩ : S26), wrap64 ((wrap64 ((wrap64 ((wrap64 ((wrap64 (x1_1 + 1)) + 1)) + 1)) + 1)) + 1)⟩ : S83)) := ⟨_, rfl⟩
     replace H : (laws_markKeptS.l0 k1 y342 (wrap64 ((wrap64 ((wrap64 ((wrap64 ((wrap64 ((wrap64 (x1_1 + 1)) + 1)) + 1)) + 1)) + 1)) + 1)) (wrap64 (x5_1 + 1))) = some (r1, r2) := by first | (rw [hy342]; with_reducible exact H) | (have H2_ := (Option.bind_some _ _).symm.trans H; rw [hy342]; with_reducible exact H2_) | (have H2_ := (Option.bind_some _ _).symm.trans H; with_reducible exact H2_) | with_reducible exact H | (rw [hy342]; exact H) | exact H
     have Ny342 := Aside0.mk hy342
     clear hy342
     have H' := Aside0.mk H
     clear H
     obtain ⟨Aq_, co8, eq_⟩ := Kd.R_slice HO_0.out
     subst eq_
     have p7 := Aside0.mk (show 0 ≤ (x5_1 : Int) from of_decide_eq_true c6b0)
     have q7 := Aside0.mk (show (x5_1 : Int) < ((x0_1.length : Int) : Int) from of_decide_eq_true c3b0)
     obtain ⟨go7, co7, eo7, gb7, gl7, cl7, HG7⟩ := Kd.R_form HO_0.out (by have := p7.out; have := q7.out; omega)
     (first | cases eo7 | (injection eo7 with ea_ en_ ec_; (first | subst ea_ | (injection ea_ with ea_; subst ea_)); subst ec_; clear en_))
     have GB7 := Aside0.mk gb7
     clear gb7 gl7 HG7
     have pp_ : (0 ≤ (x5_1 : Int)) = True := eq_true p7.out
     have pq_ : ((x5_1 : Int) < ((x0_1.length : Int) : Int)) = True := eq_true q7.out
     go_wp2_with (first | (go_at_call 77; (with_reducible refine (laws_markText.calls k1 x1_1 t340 _ A4.out).mono ?_); rintro e wa_ ⟨rfl, hb⟩; have n0_ := Aside0.mk (Kd.R_below (z_143) hb); have n1_ := Aside0.mk (Kept.below (S := (fun k_ => P0_ k_)) (z_142) hb); have n2_ := Aside0.mk (below_step HB.out hb); clear HO_0 HK HB hb; have HO_0 := n0_; have HK := n1_; have HB := n2_; clear n0_ n1_ n2_; obtain ⟨ce_, hcl_, hM_, hcc_, hfr_⟩ := Kd.R_elem HO_0.out z83 (x5_1 : Int) p7.out q7.out; rw [show x0_1.getD (x5_1 : Int).toNat z83 = (⟨(⟨(rd_T83 x0_1 x5_1).f0.f0, (rd_T83 x0_1 x5_1).f0.f1, (rd_T83 x0_1 x5_1).f0.f2, (rd_T83 x0_1 x5_1).f0.f3, (rd_T83 x0_1 x5_1).f0.f4⟩ : S26), (rd_T83 x0_1 x5_1).f1⟩ : S83) from rfl] at hM_; obtain rfl := k83_openM hM_; have HP_ := Aside0.mk (Kd.R_seg HO_0.out (x5_1 : Int) p7.out q7.out (seg := [.string t340]) (j := 0) hcl_ hcc_ (show 1 ≤ 6 from z_19) (x' := (⟨(⟨t340, (rd_T83 x0_1 x5_1).f0.f1, (rd_T83 x0_1 x5_1).f0.f2, (rd_T83 x0_1 x5_1).f0.f3, (rd_T83 x0_1 x5_1).f0.f4⟩ : S26), (rd_T83 x0_1 x5_1).f1⟩ : S83)) (k83_mkM _ _ _ (⟨(⟨t340, (rd_T83 x0_1 x5_1).f0.f1, (rd_T83 x0_1 x5_1).f0.f2, (rd_T83 x0_1 x5_1).f0.f3, (rd_T83 x0_1 x5_1).f0.f4⟩ : S26), (rd_T83 x0_1 x5_1).f1⟩ : S83)) (fun _ hk => hk)); have hx_ : wa_.cell? ⟨go7, (x5_1 : Int).toNat * 6, none⟩ = some (.string (rd_T83 x0_1 x5_1).f0.f0) := hcc_ 0 _ rfl; have hf_ : wa_.frozen? ⟨go7, (x5_1 : Int).toNat * 6, none⟩ = false := hfr_ 0; clear hcl_ hcc_ hfr_ hM_) | ((with_reducible refine gate_store (t := 9) (p := 18) rfl ?_); refine store_event (t := 9) (p := 18) (v := ?vo_wb_) (w1 := (wa_.setCell ⟨go7, (x5_1 : Int).toNat * 6, none⟩ (.string t340))) ?hg ?ho ?hn ?hr ?_; (case ho => rfl); (case hg => rfl); (case hn => rfl); (case hr => exact z_1); intro wb_ hw; have hg : wa_.grownBy wb_ (some go7) := (z_144); have hp_ : Kd.R k83 83 wb_ w0.heap.size (fun k_ => (P0_ k_ ∨ w.heap.size ≤ k_)) (.slice (some ⟨go7, 0, none⟩) x0_1.length co8) (x0_1.set (x5_1 : Int).toNat (⟨(⟨t340, (rd_T83 x0_1 x5_1).f0.f1, (rd_T83 x0_1 x5_1).f0.f2, (rd_T83 x0_1 x5_1).f0.f3, (rd_T83 x0_1 x5_1).f0.f4⟩ : S26), (rd_T83 x0_1 x5_1).f1⟩ : S83)) := (z_145); clear HP_ hx_ hf_; have n0_ := Aside0.mk hp_; have n1_ := Aside0.mk ((z_146 : Below w0.heap.size w0 wb_)); have n2_ := Aside0.mk (Kept.of_grown (S := (fun k_ => P0_ k_)) hg (z_142) (fun k_ e_ => (HO_0.out.1 k_ e_))); clear HO_0 HB HK hg hw hp_; have HO_0 := n0_; have HB := n1_; have HK := n2_; clear n0_ n1_ n2_; obtain ⟨ce_, hcl_, hM_, hcc_, hfr_⟩ := Kd.R_elem HO_0.out z83 (x5_1 : Int) p7.out q7.out; rw [rdset_ x0_1 (⟨(⟨t340, (rd_T83 x0_1 x5_1).f0.f1, (rd_T83 x0_1 x5_1).f0.f2, (rd_T83 x0_1 x5_1).f0.f3, (rd_T83 x0_1 x5_1).f0.f4⟩ : S26), (rd_T83 x0_1 x5_1).f1⟩ : S83) p7.out q7.out] at hM_; obtain rfl := k83_openM hM_; have HP_ := Aside0.mk (Kd.R_seg HO_0.out (x5_1 : Int) p7.out q7.out (seg := [.int .i64 (wrap64 (x1_1 + 1))]) (j := 1) hcl_ hcc_ (show 2 ≤ 6 from z_19) (x' := (⟨(⟨t340, wrap64 (x1_1 + 1), (rd_T83 x0_1 x5_1).f0.f2, (rd_T83 x0_1 x5_1).f0.f3, (rd_T83 x0_1 x5_1).f0.f4⟩ : S26), (rd_T83 x0_1 x5_1).f1⟩ : S83)) (k83_mkM _ _ _ (⟨(⟨t340, wrap64 (x1_1 + 1), (rd_T83 x0_1 x5_1).f0.f2, (rd_T83 x0_1 x5_1).f0.f3, (rd_T83 x0_1 x5_1).f0.f4⟩ : S26), (rd_T83 x0_1 x5_1).f1⟩ : S83)) (fun _ hk => hk)); have hx_ : wb_.cell? ⟨go7, (x5_1 : Int).toNat * 6 + 1, none⟩ = some (.int .i64 (rd_T83 x0_1 x5_1).f0.f1) := hcc_ 1 _ rfl; have hf_ : wb_.frozen? ⟨go7, (x5_1 : Int).toNat * 6 + 1, none⟩ = false := hfr_ 1; clear hcl_ hcc_ hfr_ hM_) | ((with_reducible refine gate_store (t := 3) (p := 26) rfl ?_); refine store_event (t := 3) (p := 26) (v := ?vo_wc_) (w1 := (wb_.setCell ⟨go7, (x5_1 : Int).toNat * 6 + 1, none⟩ (.int .i64 (wrap64 (x1_1 + 1))))) ?hg ?ho ?hn ?hr ?_; (case ho => rfl); (case hg => rfl); (case hn => rfl); (case hr => exact z_1); intro wc_ hw; have hg : wb_.grownBy wc_ (some go7) := (z_144); have hp_ : Kd.R k83 83 wc_ w0.heap.size (fun k_ => (P0_ k_ ∨ w.heap.size ≤ k_)) (.slice (some ⟨go7, 0, none⟩) x0_1.length co8) (x0_1.set (x5_1 : Int).toNat (⟨(⟨t340, wrap64 (x1_1 + 1), (rd_T83 x0_1 x5_1).f0.f2, (rd_T83 x0_1 x5_1).f0.f3, (rd_T83 x0_1 x5_1).f0.f4⟩ : S26), (rd_T83 x0_1 x5_1).f1⟩ : S83)) := (z_145); clear HP_ hx_ hf_; have n0_ := Aside0.mk hp_; have n1_ := Aside0.mk ((z_146 : Below w0.heap.size w0 wc_)); have n2_ := Aside0.mk (Kept.of_grown (S := (fun k_ => P0_ k_)) hg (z_142) (fun k_ e_ => (HO_0.out.1 k_ e_))); clear HO_0 HB HK hg hw hp_; have HO_0 := n0_; have HB := n1_; have HK := n2_; clear n0_ n1_ n2_; obtain ⟨ce_, hcl_, hM_, hcc_, hfr_⟩ := Kd.R_elem HO_0.out z83 (x5_1 : Int) p7.out q7.out; rw [rdset_ x0_1 (⟨(⟨t340, wrap64 (x1_1 + 1), (rd_T83 x0_1 x5_1).f0.f2, (rd_T83 x0_1 x5_1).f0.f3, (rd_T83 x0_1 x5_1).f0.f4⟩ : S26), (rd_T83 x0_1 x5_1).f1⟩ : S83) p7.out q7.out] at hM_; obtain rfl := k83_openM hM_; have HP_ := Aside0.mk (Kd.R_seg HO_0.out (x5_1 : Int) p7.out q7.out (seg := [.int .i64 (wrap64 ((wrap64 (x1_1 + 1)) + 1))]) (j := 2) hcl_ hcc_ (show 3 ≤ 6 from z_19) (x' := (⟨(⟨t340, wrap64 (x1_1 + 1), wrap64 ((wrap64 (x1_1 + 1)) + 1), (rd_T83 x0_1 x5_1).f0.f3, (rd_T83 x0_1 x5_1).f0.f4⟩ : S26), (rd_T83 x0_1 x5_1).f1⟩ : S83)) (k83_mkM _ _ _ (⟨(⟨t340, wrap64 (x1_1 + 1), wrap64 ((wrap64 (x1_1 + 1)) + 1), (rd_T83 x0_1 x5_1).f0.f3, (rd_T83 x0_1 x5_1).f0.f4⟩ : S26), (rd_T83 x0_1 x5_1).f1⟩ : S83)) (fun _ hk => hk)); have hx_ : wc_.cell? ⟨go7, (x5_1 : Int).toNat * 6 + 2, none⟩ = some (.int .i64 (rd_T83 x0_1 x5_1).f0.f2) := hcc_ 2 _ rfl; have hf_ : wc_.frozen? ⟨go7, (x5_1 : Int).toNat * 6 + 2, none⟩ = false := hfr_ 2; clear hcl_ hcc_ hfr_ hM_) | ((with_reducible refine gate_store (t := 3) (p := 34) rfl ?_); refine store_event (t := 3) (p := 34) (v := ?vo_wd_) (w1 := (wc_.setCell ⟨go7, (x5_1 : Int).toNat * 6 + 2, none⟩ (.int .i64 (wrap64 ((wrap64 (x1_1 + 1)) + 1))))) ?hg ?ho ?hn ?hr ?_; (case ho => rfl); (case hg => rfl); (case hn => rfl); (case hr => exact z_1); intro wd_ hw; have hg : wc_.grownBy wd_ (some go7) := (z_144); have hp_ : Kd.R k83 83 wd_ w0.heap.size (fun k_ => (P0_ k_ ∨ w.heap.size ≤ k_)) (.slice (some ⟨go7, 0, none⟩) x0_1.length co8) (x0_1.set (x5_1 : Int).toNat (⟨(⟨t340, wrap64 (x1_1 + 1), wrap64 ((wrap64 (x1_1 + 1)) + 1), (rd_T83 x0_1 x5_1).f0.f3, (rd_T83 x0_1 x5_1).f0.f4⟩ : S26), (rd_T83 x0_1 x5_1).f1⟩ : S83)) := (z_145); clear HP_ hx_ hf_; have n0_ := Aside0.mk hp_; have n1_ := Aside0.mk ((z_146 : Below w0.heap.size w0 wd_)); have n2_ := Aside0.mk (Kept.of_grown (S := (fun k_ => P0_ k_)) hg (z_142) (fun k_ e_ => (HO_0.out.1 k_ e_))); clear HO_0 HB HK hg hw hp_; have HO_0 := n0_; have HB := n1_; have HK := n2_; clear n0_ n1_ n2_) | (go_at_call 77; (with_reducible refine (laws_markText.calls k1 (wrap64 ((wrap64 ((wrap64 (x1_1 + 1)) + 1)) + 1)) t341 _ A5.out).mono ?_); rintro e we_ ⟨rfl, hb⟩; have n0_ := Aside0.mk (Kd.R_below (z_143) hb); have n1_ := Aside0.mk (Kept.below (S := (fun k_ => P0_ k_)) (z_142) hb); have n2_ := Aside0.mk (below_step HB.out hb); clear HO_0 HK HB hb; have HO_0 := n0_; have HK := n1_; have HB := n2_; clear n0_ n1_ n2_; obtain ⟨ce_, hcl_, hM_, hcc_, hfr_⟩ := Kd.R_elem HO_0.out z83 (x5_1 : Int) p7.out q7.out; rw [rdset_ x0_1 (⟨(⟨t340, wrap64 (x1_1 + 1), wrap64 ((wrap64 (x1_1 + 1)) + 1), (rd_T83 x0_1 x5_1).f0.f3, (rd_T83 x0_1 x5_1).f0.f4⟩ : S26), (rd_T83 x0_1 x5_1).f1⟩ : S83) p7.out q7.out] at hM_; obtain rfl := k83_openM hM_; have HP_ := Aside0.mk (Kd.R_seg HO_0.out (x5_1 : Int) p7.out q7.out (seg := [.string t341]) (j := 3) hcl_ hcc_ (show 4 ≤ 6 from z_19) (x' := (⟨(⟨t340, wrap64 (x1_1 + 1), wrap64 ((wrap64 (x1_1 + 1)) + 1), t341, (rd_T83 x0_1 x5_1).f0.f4⟩ : S26), (rd_T83 x0_1 x5_1).f1⟩ : S83)) (k83_mkM _ _ _ (⟨(⟨t340, wrap64 (x1_1 + 1), wrap64 ((wrap64 (x1_1 + 1)) + 1), t341, (rd_T83 x0_1 x5_1).f0.f4⟩ : S26), (rd_T83 x0_1 x5_1).f1⟩ : S83)) (fun _ hk => hk)); have hx_ : we_.cell? ⟨go7, (x5_1 : Int).toNat * 6 + 3, none⟩ = some (.string (rd_T83 x0_1 x5_1).f0.f3) := hcc_ 3 _ rfl; have hf_ : we_.frozen? ⟨go7, (x5_1 : Int).toNat * 6 + 3, none⟩ = false := hfr_ 3; clear hcl_ hcc_ hfr_ hM_) | ((with_reducible refine gate_store (t := 9) (p := 43) rfl ?_); refine store_event (t := 9) (p := 43) (v := ?vo_wf_) (w1 := (we_.setCell ⟨go7, (x5_1 : Int).toNat * 6 + 3, none⟩ (.string t341))) ?hg ?ho ?hn ?hr ?_; (case ho => rfl); (case hg => rfl); (case hn => rfl); (case hr => exact z_1); intro wf_ hw; have hg : we_.grownBy wf_ (some go7) := (z_144); have hp_ : Kd.R k83 83 wf_ w0.heap.size (fun k_ => (P0_ k_ ∨ w.heap.size ≤ k_)) (.slice (some ⟨go7, 0, none⟩) x0_1.length co8) (x0_1.set (x5_1 : Int).toNat (⟨(⟨t340, wrap64 (x1_1 + 1), wrap64 ((wrap64 (x1_1 + 1)) + 1), t341, (rd_T83 x0_1 x5_1).f0.f4⟩ : S26), (rd_T83 x0_1 x5_1).f1⟩ : S83)) := (z_145); clear HP_ hx_ hf_; have n0_ := Aside0.mk hp_; have n1_ := Aside0.mk ((z_146 : Below w0.heap.size w0 wf_)); have n2_ := Aside0.mk (Kept.of_grown (S := (fun k_ => P0_ k_)) hg (z_142) (fun k_ e_ => (HO_0.out.1 k_ e_))); clear HO_0 HB HK hg hw hp_; have HO_0 := n0_; have HB := n1_; have HK := n2_; clear n0_ n1_ n2_; obtain ⟨ce_, hcl_, hM_, hcc_, hfr_⟩ := Kd.R_elem HO_0.out z83 (x5_1 : Int) p7.out q7.out; rw [rdset_ x0_1 (⟨(⟨t340, wrap64 (x1_1 + 1), wrap64 ((wrap64 (x1_1 + 1)) + 1), t341, (rd_T83 x0_1 x5_1).f0.f4⟩ : S26), (rd_T83 x0_1 x5_1).f1⟩ : S83) p7.out q7.out] at hM_; obtain rfl := k83_openM hM_; have HP_ := Aside0.mk (Kd.R_seg HO_0.out (x5_1 : Int) p7.out q7.out (seg := [.int .i64 (wrap64 ((wrap64 ((wrap64 ((wrap64 (x1_1 + 1)) + 1)) + 1)) + 1))]) (j := 4) hcl_ hcc_ (show 5 ≤ 6 from z_19) (x' := (⟨(⟨t340, wrap64 (x1_1 + 1), wrap64 ((wrap64 (x1_1 + 1)) + 1), t341, wrap64 ((wrap64 ((wrap64 ((wrap64 (x1_1 + 1)) + 1)) + 1)) + 1)⟩ : S26), (rd_T83 x0_1 x5_1).f1⟩ : S83)) (k83_mkM _ _ _ (⟨(⟨t340, wrap64 (x1_1 + 1), wrap64 ((wrap64 (x1_1 + 1)) + 1), t341, wrap64 ((wrap64 ((wrap64 ((wrap64 (x1_1 + 1)) + 1)) + 1)) + 1)⟩ : S26), (rd_T83 x0_1 x5_1).f1⟩ : S83)) (fun _ hk => hk)); have hx_ : wf_.cell? ⟨go7, (x5_1 : Int).toNat * 6 + 4, none⟩ = some (.int .i64 (rd_T83 x0_1 x5_1).f0.f4) := hcc_ 4 _ rfl; have hf_ : wf_.frozen? ⟨go7, (x5_1 : Int).toNat * 6 + 4, none⟩ = false := hfr_ 4; clear hcl_ hcc_ hfr_ hM_) | ((with_reducible refine gate_store (t := 3) (p := 51) rfl ?_); refine store_event (t := 3) (p := 51) (v := ?vo_wg_) (w1 := (wf_.setCell ⟨go7, (x5_1 : Int).toNat * 6 + 4, none⟩ (.int .i64 (wrap64 ((wrap64 ((wrap64 ((wrap64 (x1_1 + 1)) + 1)) + 1)) + 1))))) ?hg ?ho ?hn ?hr ?_; (case ho => rfl); (case hg => rfl); (case hn => rfl); (case hr => exact z_1); intro wg_ hw; have hg : wf_.grownBy wg_ (some go7) := (z_144); have hp_ : Kd.R k83 83 wg_ w0.heap.size (fun k_ => (P0_ k_ ∨ w.heap.size ≤ k_)) (.slice (some ⟨go7, 0, none⟩) x0_1.length co8) (x0_1.set (x5_1 : Int).toNat (⟨(⟨t340, wrap64 (x1_1 + 1), wrap64 ((wrap64 (x1_1 + 1)) + 1), t341, wrap64 ((wrap64 ((wrap64 ((wrap64 (x1_1 + 1)) + 1)) + 1)) + 1)⟩ : S26), (rd_T83 x0_1 x5_1).f1⟩ : S83)) := (z_145); clear HP_ hx_ hf_; have n0_ := Aside0.mk hp_; have n1_ := Aside0.mk ((z_146 : Below w0.heap.size w0 wg_)); have n2_ := Aside0.mk (Kept.of_grown (S := (fun k_ => P0_ k_)) hg (z_142) (fun k_ e_ => (HO_0.out.1 k_ e_))); clear HO_0 HB HK hg hw hp_; have HO_0 := n0_; have HB := n1_; have HK := n2_; clear n0_ n1_ n2_; obtain ⟨ce_, hcl_, hM_, hcc_, hfr_⟩ := Kd.R_elem HO_0.out z83 (x5_1 : Int) p7.out q7.out; rw [rdset_ x0_1 (⟨(⟨t340, wrap64 (x1_1 + 1), wrap64 ((wrap64 (x1_1 + 1)) + 1), t341, wrap64 ((wrap64 ((wrap64 ((wrap64 (x1_1 + 1)) + 1)) + 1)) + 1)⟩ : S26), (rd_T83 x0_1 x5_1).f1⟩ : S83) p7.out q7.out] at hM_; obtain rfl := k83_openM hM_; have HP_ := Aside0.mk (Kd.R_seg HO_0.out (x5_1 : Int) p7.out q7.out (seg := [.int .i64 (wrap64 ((wrap64 ((wrap64 ((wrap64 ((wrap64 (x1_1 + 1)) + 1)) + 1)) + 1)) + 1))]) (j := 5) hcl_ hcc_ (show 6 ≤ 6 from z_19) (x' := (⟨(⟨t340, wrap64 (x1_1 + 1), wrap64 ((wrap64 (x1_1 + 1)) + 1), t341, wrap64 ((wrap64 ((wrap64 ((wrap64 (x1_1 + 1)) + 1)) + 1)) + 1)⟩ : S26), wrap64 ((wrap64 ((wrap64 ((wrap64 ((wrap64 (x1_1 + 1)) + 1)) + 1)) + 1)) + 1)⟩ : S83)) (k83_mkM _ _ _ (⟨(⟨t340, wrap64 (x1_1 + 1), wrap64 ((wrap64 (x1_1 + 1)) + 1), t341, wrap64 ((wrap64 ((wrap64 ((wrap64 (x1_1 + 1)) + 1)) + 1)) + 1)⟩ : S26), wrap64 ((wrap64 ((wrap64 ((wrap64 ((wrap64 (x1_1 + 1)) + 1)) + 1)) + 1)) + 1)⟩ : S83)) (fun _ hk => hk)); have hx_ : wg_.cell? ⟨go7, (x5_1 : Int).toNat * 6 + 5, none⟩ = some (.int .i64 (rd_T83 x0_1 x5_1).f1) := hcc_ 5 _ rfl; have hf_ : wg_.frozen? ⟨go7, (x5_1 : Int).toNat * 6 + 5, none⟩ = false := hfr_ 5; clear hcl_ hcc_ hfr_ hM_) | ((with_reducible refine gate_store (t := 3) (p := 58) rfl ?_); refine store_event (t := 3) (p := 58) (v := ?vo_wh_) (w1 := (wg_.setCell ⟨go7, (x5_1 : Int).toNat * 6 + 5, none⟩ (.int .i64 (wrap64 ((wrap64 ((wrap64 ((wrap64 ((wrap64 (x1_1 + 1)) + 1)) + 1)) + 1)) + 1))))) ?hg ?ho ?hn ?hr ?_; (case ho => rfl); (case hg => rfl); (case hn => rfl); (case hr => exact z_1); intro wh_ hw; have hg : wg_.grownBy wh_ (some go7) := (z_144); have hp_ : Kd.R k83 83 wh_ w0.heap.size (fun k_ => (P0_ k_ ∨ w.heap.size ≤ k_)) (.slice (some ⟨go7, 0, none⟩) x0_1.length co8) (x0_1.set (x5_1 : Int).toNat (⟨(⟨t340, wrap64 (x1_1 + 1), wrap64 ((wrap64 (x1_1 + 1)) + 1), t341, wrap64 ((wrap64 ((wrap64 ((wrap64 (x1_1 + 1)) + 1)) + 1)) + 1)⟩ : S26), wrap64 ((wrap64 ((wrap64 ((wrap64 ((wrap64 (x1_1 + 1)) + 1)) + 1)) + 1)) + 1)⟩ : S83)) := (z_145); clear HP_ hx_ hf_; have n0_ := Aside0.mk hp_; have n1_ := Aside0.mk ((z_146 : Below w0.heap.size w0 wh_)); have n2_ := Aside0.mk (Kept.of_grown (S := (fun k_ => P0_ k_)) hg (z_142) (fun k_ e_ => (HO_0.out.1 k_ e_))); clear HO_0 HB HK hg hw hp_; have HO_0 := n0_; have HB := n1_; have HK := n2_; clear n0_ n1_ n2_))
     go_roundg k1
     case measure => have := HK1.out; omega
     case rel => exact ⟨(y342), _, (wrap64 (x5_1 + 1)), rfl, (z_6), H', ⟨z_9⟩, ⟨by rw [Ny342.out]; exact HO_0.out⟩, HK, HB⟩
    ·rw [if_neg c6] at H
     exact absurd H (z_10)
   ·rw [if_neg c3] at H
    have c3b0 : decide (x5_1 < (x0_1.length : Int)) = false := decide_eq_false c3
    clear c3
    simp only [Option.some.injEq, Prod.mk.injEq] at H
    obtain ⟨rfl, rfl⟩ := H
    obtain ⟨Ao13, co13, eo13⟩ := Kd.R_slice HO_0.out
    subst eo13
    go_wp2
    go_ret
    exact ⟨z_4, z_143, z_2, z_142⟩

/-! ### laws_markNameS: function 52 -/
def laws_markNameS.l0 : Nat → List (S26) → Int → Int → Option (Int × (List (S26)))
 | 0, _, _, _ => none
 | k + 1, x0, x1, x5 => if x5 < (x0.length : Int) then ((laws_markText.f k x1).bind fun t343 => (if 0 ≤ x5 then ((some (x0.set (x5 : Int).toNat (⟨t343, (rd_T26 x0 x5).f1, (rd_T26 x0 x5).f2, (rd_T26 x0 x5).f3, (rd_T26 x0 x5).f4⟩ : S26) : List (S26))).bind fun y344 => ((some (y344.set (x5 : Int).toNat (⟨(rd_T26 y344 x5).f0, wrap64 (x1 + 1), (rd_T26 y344 x5).f2, (rd_T26 y344 x5).f3, (rd_T26 y344 x5).f4⟩ : S26) : List (S26))).bind fun y345 => ((some (y345.set (x5 : Int).toNat (⟨(rd_T26 y345 x5).f0, (rd_T26 y345 x5).f1, wrap64 ((wrap64 (x1 + 1)) + 1), (rd_T26 y345 x5).f3, (rd_T26 y345 x5).f4⟩ : S26) : List (S26))).bind fun y346 => ((laws_markText.f k (wrap64 ((wrap64 ((wrap64 (x1 + 1)) + 1)) + 1))).bind fun t347 => ((some (y346.set (x5 : Int).toNat (⟨(rd_T26 y346 x5).f0, (rd_T26 y346 x5).f1, (rd_T26 y346 x5).f2, t347, (rd_T26 y346 x5).f4⟩ : S26) : List (S26))).bind fun y348 => (laws_markNameS.l0 k (y348.set (x5 : Int).toNat (⟨(rd_T26 y348 x5).f0, (rd_T26 y348 x5).f1, (rd_T26 y348 x5).f2, (rd_T26 y348 x5).f3, wrap64 ((wrap64 ((wrap64 ((wrap64 (x1 + 1)) + 1)) + 1)) + 1)⟩ : S26)) (wrap64 ((wrap64 ((wrap64 ((wrap64 ((wrap64 (x1 + 1)) + 1)) + 1)) + 1)) + 1)) (wrap64 (x5 + 1)))))))) else (none))) else (some (x1, x0))
def laws_markNameS.f (k : Nat) (l0 : List (S26)) (a1 : Int) : Option (Int × (List (S26))) := laws_markNameS.l0 k l0 a1 0
theorem laws_markNameS.mono_l : ∀ k, (∀ y0 y1 y2, LeO (laws_markNameS.l0 k y0 y1 y2) (laws_markNameS.l0 (k + 1) y0 y1 y2))
 | 0 => fun _ _ _ r h => by simp [laws_markNameS.l0] at h
 | k + 1 => by
  have ih0 := laws_markNameS.mono_l k
  ·intro y0 y1 y2
   unfold laws_markNameS.l0
   repeat' first
   | (with_reducible exact ih0 _ _ _)
   | (with_reducible exact laws_markText.mono _ _)
   | (with_reducible exact LeO.refl _)
   | (with_reducible exact LeO.none _)
   | (with_reducible refine LeO.ite ?_ ?_)
   | (with_reducible refine LeO.bind ?_ (fun _ => ?_))
   | exact ih0 _ _ _
   | exact laws_markText.mono _ _
   | exact LeO.none _
   | refine LeO.ite ?_ ?_
   | refine LeO.bind ?_ (fun _ => ?_)
theorem laws_markNameS.mono : ∀ a0 a1 k, LeO (laws_markNameS.f k a0 a1) (laws_markNameS.f (k + 1) a0 a1) := by
 intro a0 a1 k
 have ih0 := laws_markNameS.mono_l k
 unfold laws_markNameS.f
 repeat' first
   | (with_reducible exact ih0 _ _ _)
   | (with_reducible exact laws_markText.mono _ _)
   | (with_reducible exact LeO.refl _)
   | (with_reducible exact LeO.none _)
   | (with_reducible refine LeO.ite ?_ ?_)
   | (with_reducible refine LeO.bind ?_ (fun _ => ?_))
   | exact ih0 _ _ _
   | exact laws_markText.mono _ _
   | exact LeO.none _
   | refine LeO.ite ?_ ?_
   | refine LeO.bind ?_ (fun _ => ?_)
set_option maxHeartbeats 8000000 in
set_option maxRecDepth 100000 in
theorem laws_markNameS.calls (k : Nat) (P0_ : Nat → Prop) (u9000_ : Value) (l0 : List (S26)) (a1 : Int) (r1 : Int) (r2 : List (S26)) (w0 w : World) (hB : Below w0.heap.size w0 w) (ho0 : Kd.R k26 26 w w0.heap.size P0_ u9000_ l0) (h : laws_markNameS.f k l0 a1 = some (r1, r2)) :
  Calls Try.prog 52 #[u9000_, .int .i64 a1] w fun e w' => e = .returned (.int .i64 r1) ∧ Kd.R k26 26 w' w0.heap.size (fun k_ => (P0_ k_ ∨ w.heap.size ≤ k_)) u9000_ r2 ∧ Below w0.heap.size w0 w' ∧ Kept w w' (fun k_ => P0_ k_) := by
 have HO0 := Aside0.mk (show Kd.R k26 26 w w0.heap.size (fun k_ => (P0_ k_ ∨ w.heap.size ≤ k_)) u9000_ l0 from Kd.R_mono ho0 (fun k_ hk => (.inl hk)))
 have HK := Aside0.mk (Kept.refl w (fun k_ => P0_ k_))
 have HW0 := Aside0.mk hB.size
 have HB := Aside0.mk hB
 clear hB
 have H : (laws_markNameS.l0 k l0 a1 0) = some (r1, r2) := h
 clear h
 have H' := Aside0.mk H
 clear H
 go_enter Try.func52, Try.ntmps52
 go_wp2
 go_loopg [1, 5] k (fun kq v1 v5 w' => ∃ (x0_1 : List (S26)) (x1_1 : Int) (x5_1 : Int), v1 = .int .i64 x1_1 ∧ v5 = .int .i64 x5_1 ∧ Aside0 (laws_markNameS.l0 kq x0_1 x1_1 x5_1 = some (r1, r2)) ∧ Aside0 (kq ≤ k) ∧ Aside0 (Kd.R k26 26 w' w0.heap.size (fun k_ => (P0_ k_ ∨ w.heap.size ≤ k_)) u9000_ x0_1) ∧ Aside0 (Kept w w' (fun k_ => P0_ k_)) ∧ Aside0 (Below w0.heap.size w0 w'))
 case atStart => exact ⟨(l0), (a1), (0), (z_6), (z_6), H', ⟨Nat.le_refl _⟩, ⟨z_141⟩, ⟨z_142⟩, ⟨z_2⟩⟩
 case round =>
  clear H'
  try clear p2
  obtain ⟨x0_1, x1_1, x5_1, rfl, rfl, HA, HK1, HO_0, HK, HB⟩ := hrel
  cases gk with
  | zero => exact absurd HA.out (by simp [laws_markNameS.l0])
  | succ k1 =>
   have H := HA.out
   clear HA
   simp only [laws_markNameS.l0] at H
   by_cases c3 : x5_1 < (x0_1.length : Int)
   ·rw [if_pos c3] at H
    have c3b0 : decide (x5_1 < (x0_1.length : Int)) = true := decide_eq_true c3
    clear c3
    replace H := Option.bind_eq_some_iff.mp H
    obtain ⟨t343, A40, H⟩ := H
    have A4 := Aside0.mk A40
    clear A40
    by_cases c5 : 0 ≤ x5_1
    ·rw [if_pos c5] at H
     have c5b0 : decide (0 ≤ x5_1) = true := decide_eq_true c5
     clear c5
     obtain ⟨y344, hy344⟩ : ∃ y_ : List (S26), y_ = (x0_1.set (x5_1 : Int).toNat (⟨t343, (rd_T26 x0_1 x5_1).f1, (rd_T26 x0_1 x5_1).f2, (rd_T26 x0_1 x5_1).f3, (rd_T26 x0_1 x5_1).f4⟩ : S26)) := ⟨_, rfl⟩
     replace H : ((some (y344.set (x5_1 : Int).toNat (⟨(rd_T26 y344 x5_1).f0, wrap64 (x1_1 + 1), (rd_T26 y344 x5_1).f2, (rd_T26 y344 x5_1).f3, (rd_T26 y344 x5_1).f4⟩ : S26) : List (S26))).bind fun y345 => ((some (y345.set (x5_1 : Int).toNat (⟨(rd_T26 y345 x5_1).f0, (rd_T26 y345 x5_1).f1, wrap64 ((wrap64 (x1_1 + 1)) + 1), (rd_T26 y345 x5_1).f3, (rd_T26 y345 x5_1).f4⟩ : S26) : List (S26))).bind fun y346 => ((laws_markText.f k1 (wrap64 ((wrap64 ((wrap64 (x1_1 + 1)) + 1)) + 1))).bind fun t347 => ((some (y346.set (x5_1 : Int).toNat (⟨(rd_T26 y346 x5_1).f0, (rd_T26 y346 x5_1).f1, (rd_T26 y346 x5_1).f2, t347, (rd_T26 y346 x5_1).f4⟩ : S26) : List (S26))).bind fun y348 => (laws_markNameS.l0 k1 (y348.set (x5_1 : Int).toNat (⟨(rd_T26 y348 x5_1).f0, (rd_T26 y348 x5_1).f1, (rd_T26 y348 x5_1).f2, (rd_T26 y348 x5_1).f3, wrap64 ((wrap64 ((wrap64 ((wrap64 (x1_1 + 1)) + 1)) + 1)) + 1)⟩ : S26)) (wrap64 ((wrap64 ((wrap64 ((wrap64 ((wrap64 (x1_1 + 1)) + 1)) + 1)) + 1)) + 1)) (wrap64 (x5_1 + 1))))))) = some (r1, r2) := by first | (rw [hy344]; with_reducible exact H) | (have H2_ := (Option.bind_some _ _).symm.trans H; rw [hy344]; with_reducible exact H2_) | (have H2_ := (Option.bind_some _ _).symm.trans H; with_reducible exact H2_) | with_reducible exact H | (rw [hy344]; exact H) | exact H
     have Ny344 := Aside0.mk hy344
     clear hy344
     obtain ⟨y345, hy345⟩ : ∃ y_ : List (S26), y_ = (y344.set (x5_1 : Int).toNat (⟨(rd_T26 y344 x5_1).f0, wrap64 (x1_1 + 1), (rd_T26 y344 x5_1).f2, (rd_T26 y344 x5_1).f3, (rd_T26 y344 x5_1).f4⟩ : S26)) := ⟨_, rfl⟩
     replace H : ((some (y345.set (x5_1 : Int).toNat (⟨(rd_T26 y345 x5_1).f0, (rd_T26 y345 x5_1).f1, wrap64 ((wrap64 (x1_1 + 1)) + 1), (rd_T26 y345 x5_1).f3, (rd_T26 y345 x5_1).f4⟩ : S26) : List (S26))).bind fun y346 => ((laws_markText.f k1 (wrap64 ((wrap64 ((wrap64 (x1_1 + 1)) + 1)) + 1))).bind fun t347 => ((some (y346.set (x5_1 : Int).toNat (⟨(rd_T26 y346 x5_1).f0, (rd_T26 y346 x5_1).f1, (rd_T26 y346 x5_1).f2, t347, (rd_T26 y346 x5_1).f4⟩ : S26) : List (S26))).bind fun y348 => (laws_markNameS.l0 k1 (y348.set (x5_1 : Int).toNat (⟨(rd_T26 y348 x5_1).f0, (rd_T26 y348 x5_1).f1, (rd_T26 y348 x5_1).f2, (rd_T26 y348 x5_1).f3, wrap64 ((wrap64 ((wrap64 ((wrap64 (x1_1 + 1)) + 1)) + 1)) + 1)⟩ : S26)) (wrap64 ((wrap64 ((wrap64 ((wrap64 ((wrap64 (x1_1 + 1)) + 1)) + 1)) + 1)) + 1)) (wrap64 (x5_1 + 1)))))) = some (r1, r2) := by first | (rw [hy345]; with_reducible exact H) | (have H2_ := (Option.bind_some _ _).symm.trans H; rw [hy345]; with_reducible exact H2_) | (have H2_ := (Option.bind_some _ _).symm.trans H; with_reducible exact H2_) | with_reducible exact H | (rw [hy345]; exact H) | exact H
     have Ny345 := Aside0.mk hy345
     clear hy345
     obtain ⟨y346, hy346⟩ : ∃ y_ : List (S26), y_ = (y345.set (x5_1 : Int).toNat (⟨(rd_T26 y345 x5_1).f0, (rd_T26 y345 x5_1).f1, wrap64 ((wrap64 (x1_1 + 1)) + 1), (rd_T26 y345 x5_1).f3, (rd_T26 y345 x5_1).f4⟩ : S26)) := ⟨_, rfl⟩
     replace H : ((laws_markText.f k1 (wrap64 ((wrap64 ((wrap64 (x1_1 + 1)) + 1)) + 1))).bind fun t347 => ((some (y346.set (x5_1 : Int).toNat (⟨(rd_T26 y346 x5_1).f0, (rd_T26 y346 x5_1).f1, (rd_T26 y346 x5_1).f2, t347, (rd_T26 y346 x5_1).f4⟩ : S26) : List (S26))).bind fun y348 => (laws_markNameS.l0 k1 (y348.set (x5_1 : Int).toNat (⟨(rd_T26 y348 x5_1).f0, (rd_T26 y348 x5_1).f1, (rd_T26 y348 x5_1).f2, (rd_T26 y348 x5_1).f3, wrap64 ((wrap64 ((wrap64 ((wrap64 (x1_1 + 1)) + 1)) + 1)) + 1)⟩ : S26)) (wrap64 ((wrap64 ((wrap64 ((wrap64 ((wrap64 (x1_1 + 1)) + 1)) + 1)) + 1)) + 1)) (wrap64 (x5_1 + 1))))) = some (r1, r2) := by first | (rw [hy346]; with_reducible exact H) | (have H2_ := (Option.bind_some _ _).symm.trans H; rw [hy346]; with_reducible exact H2_) | (have H2_ := (Option.bind_some _ _).symm.trans H; with_reducible exact H2_) | with_reducible exact H | (rw [hy346]; exact H) | exact H
     have Ny346 := Aside0.mk hy346
     clear hy346
     replace H := Option.bind_eq_some_iff.mp H
     obtain ⟨t347, A90, H⟩ := H
     have A9 := Aside0.mk A90
     clear A90
     obtain ⟨y348, hy348⟩ : ∃ y_ : List (S26), y_ = (y346.set (x5_1 : Int).toNat (⟨(rd_T26 y346 x5_1).f0, (rd_T26 y346 x5_1).f1, (rd_T26 y346 x5_1).f2, t347, (rd_T26 y346 x5_1).f4⟩ : S26)) := ⟨_, rfl⟩
     replace H : (laws_markNameS.l0 k1 (y348.set (x5_1 : Int).toNat (⟨(rd_T26 y348 x5_1).f0, (rd_T26 y348 x5_1).f1, (rd_T26 y348 x5_1).f2, (rd_T26 y348 x5_1).f3, wrap64 ((wrap64 ((wrap64 ((wrap64 (x1_1 + 1)) + 1)) + 1)) + 1)⟩ : S26)) (wrap64 ((wrap64 ((wrap64 ((wrap64 ((wrap64 (x1_1 + 1)) + 1)) + 1)) + 1)) + 1)) (wrap64 (x5_1 + 1))) = some (r1, r2) := by first | (rw [hy348]; with_reducible exact H) | (have H2_ := (Option.bind_some _ _).symm.trans H; rw [hy348]; with_reducible exact H2_) | (have H2_ := (Option.bind_some _ _).symm.trans H; with_reducible exact H2_) | with_reducible exact H | (rw [hy348]; exact H) | exact H
     have Ny348 := Aside0.mk hy348
     clear hy348
     obtain ⟨y349, hy349⟩ : ∃ y_ : List (S26), y_ = (y348.set (x5_1 : Int).toNat (⟨(rd_T26 y348 x5_1).f0, (rd_T26 y348 x5_1).f1, (rd_T26 y348 x5_1).f2, (rd_T26 y348 x5_1).f3, wrap64 ((wrap64 ((wrap64 ((wrap64 (x1_1 + 1)) + 1)) + 1)) + 1)⟩ : S26)) := ⟨_, rfl⟩
     replace H : (laws_markNameS.l0 k1 y349 (wrap64 ((wrap64 ((wrap64 ((wrap64 ((wrap64 (x1_1 + 1)) + 1)) + 1)) + 1)) + 1)) (wrap64 (x5_1 + 1))) = some (r1, r2) := by first | (rw [hy349]; with_reducible exact H) | (have H2_ := (Option.bind_some _ _).symm.trans H; rw [hy349]; with_reducible exact H2_) | (have H2_ := (Option.bind_some _ _).symm.trans H; with_reducible exact H2_) | with_reducible exact H | (rw [hy349]; exact H) | exact H
     have Ny349 := Aside0.mk hy349
     clear hy349
     have H' := Aside0.mk H
     clear H
     obtain ⟨Ao12, co12, eo12⟩ := Kd.R_slice HO_0.out
     subst eo12
     go_wp2_with (first | ((with_reducible refine gate_callee (f := 77) rfl ?_); refine goesL_ (some 15) rfl rfl Try.func77 (z_0) rfl #[.int .i64 x1_1] rfl (z_8) ?_; (with_reducible refine (laws_markText.calls k1 x1_1 t343 _ A4.out).mono ?_); rintro e w13 ⟨rfl, hb⟩; refine ⟨_, rfl, ?_⟩; have n0_ := Aside0.mk (Kd.R_below (z_143) hb); have n1_ := Aside0.mk (Kept.below (S := (fun k_ => P0_ k_)) (z_142) hb); have n2_ := Aside0.mk (below_step (z_2) hb); clear HO_0; clear HK; clear HB; have HO_0 := n0_; have HK := n1_; have HB := n2_; clear n0_ n1_ n2_; (try clear hb); (try clear hb2); (try clear hk); (try clear hi); have p6 : 0 ≤ (x5_1 : Int) := of_decide_eq_true (z_7); have q6 : (x5_1 : Int) < ((x0_1.length : Int) : Int) := of_decide_eq_true (z_7); obtain ⟨go6, co6, eo6, gb6, gl6, cl6, HG6⟩ := Kd.R_form HO_0.out (z_20); (first | cases eo6 | (injection eo6 with ea_ en_ ec_; (first | subst ea_ | (injection ea_ with ea_; subst ea_)); subst ec_; clear en_)); have GB6 := Aside0.mk gb6; have GG6 := Aside0.mk HG6; clear gb6 gl6 HG6; have HMgo6 := Aside0.mk (show (P0_ go6 ∨ w.heap.size ≤ go6) from (HO_0.out.1 _ rfl)); obtain ⟨ce6, hcl6, hM6, hcc6, hfr6⟩ := Kd.R_elem HO_0.out z26 (x5_1 : Int) p6 q6; obtain rfl := k26_openM hM6; have hx6_0 : w13.cell? ⟨go6, (x5_1 : Int).toNat * 5, none⟩ = some (.string ((rd_T26 x0_1 x5_1).f0)) := hcc6 0 _ rfl; have hx6_1 : w13.cell? ⟨go6, (x5_1 : Int).toNat * 5 + 1, none⟩ = some (.int .i64 ((rd_T26 x0_1 x5_1).f1)) := hcc6 1 _ rfl; have hx6_2 : w13.cell? ⟨go6, (x5_1 : Int).toNat * 5 + 2, none⟩ = some (.int .i64 ((rd_T26 x0_1 x5_1).f2)) := hcc6 2 _ rfl; have hx6_3 : w13.cell? ⟨go6, (x5_1 : Int).toNat * 5 + 3, none⟩ = some (.string ((rd_T26 x0_1 x5_1).f3)) := hcc6 3 _ rfl; have hx6_4 : w13.cell? ⟨go6, (x5_1 : Int).toNat * 5 + 4, none⟩ = some (.int .i64 ((rd_T26 x0_1 x5_1).f4)) := hcc6 4 _ rfl; have hf6_0 : w13.frozen? ⟨go6, (x5_1 : Int).toNat * 5, none⟩ = false := hfr6 0; have hf6_1 : w13.frozen? ⟨go6, (x5_1 : Int).toNat * 5 + 1, none⟩ = false := hfr6 1; have hf6_2 : w13.frozen? ⟨go6, (x5_1 : Int).toNat * 5 + 2, none⟩ = false := hfr6 2; have hf6_3 : w13.frozen? ⟨go6, (x5_1 : Int).toNat * 5 + 3, none⟩ = false := hfr6 3; have hf6_4 : w13.frozen? ⟨go6, (x5_1 : Int).toNat * 5 + 4, none⟩ = false := hfr6 4; clear hcl6 hcc6 hfr6 hM6; replace p6 := eq_true p6; replace q6 := eq_true q6; have HX14 := Aside0.mk (show Kd.R k26 26 w13 w0.heap.size (fun k_ => (P0_ k_ ∨ w.heap.size ≤ k_)) (.slice (some ⟨go6, 0, none⟩) x0_1.length co12) x0_1 from (z_143)); obtain ⟨ce14, hcl14, hM14, hcc14, hfr14⟩ := Kd.R_elem HX14.out z26 (x5_1 : Int) (of_decide_eq_true (z_7)) (z_147); obtain rfl := k26_openM hM14; have HP14 := Kd.R_seg HX14.out (x5_1 : Int) (of_decide_eq_true (z_7)) (z_147) (seg := [.string t343]) (j := 0) hcl14 hcc14 (show 1 ≤ 5 from z_19) (x' := (⟨t343, (rd_T26 x0_1 x5_1).f1, (rd_T26 x0_1 x5_1).f2, (rd_T26 x0_1 x5_1).f3, (rd_T26 x0_1 x5_1).f4⟩ : S26)) (k26_mkM _ _ _ (⟨t343, (rd_T26 x0_1 x5_1).f1, (rd_T26 x0_1 x5_1).f2, (rd_T26 x0_1 x5_1).f3, (rd_T26 x0_1 x5_1).f4⟩ : S26) ) (fun _ hk => hk); have hx14_0 := hcc14 0 _ rfl; (try simp only [show (k26).sz = 5 from rfl, Nat.mul_one, Nat.add_zero] at hx14_0); have hf14_0 := hfr14 0; (try simp only [show (k26).sz = 5 from rfl, Nat.mul_one, Nat.add_zero] at hf14_0); clear hcl14 hcc14 hfr14 hM14) | ((with_reducible refine gate_store (t := 9) (p := 17) rfl ?_); refine store_event (t := 9) (p := 17) (v := ?vo_w15) (w1 := (w13.setCell ⟨go6, (x5_1 : Int).toNat * 5, none⟩ (.string t343))) ?hg ?ho ?hn ?hr ?_; (case ho => rfl); (case hg => rfl); (case hn => rfl); (case hr => exact z_1); intro w15 hw; have hg : w13.grownBy w15 (some go6) := (by rw [hw]; exact HP14.2); have hp_ : Kd.R k26 26 w15 w0.heap.size (fun k_ => (P0_ k_ ∨ w.heap.size ≤ k_)) (.slice (some ⟨go6, 0, none⟩) x0_1.length co12) y344 := (by rw [hw, Ny344.out]; exact HP14.1); clear HP14; have n0_ := Aside0.mk (hp_); have n1_ := Aside0.mk ((z_148 : Below w0.heap.size w0 w15)); have n2_ := Aside0.mk (Kept.of_grown (S := (fun k_ => P0_ k_)) hg (z_142) (fun k_ e_ => (HO_0.out.1 k_ e_))); clear HO_0; clear HB; clear HK; have HO_0 := n0_; have HB := n1_; have HK := n2_; clear n0_ n1_ n2_; clear hg hw hp_; have p7 : 0 ≤ (x5_1 : Int) := of_decide_eq_true (z_7); have q7 : (x5_1 : Int) < ((x0_1.length : Int) : Int) := of_decide_eq_true (z_7); obtain ⟨ce7, hcl7, hM7, hcc7, hfr7⟩ := Kd.R_elem HO_0.out z26 (x5_1 : Int) p7 q7; obtain rfl := k26_openM hM7; have hx7_0 : w15.cell? ⟨go6, (x5_1 : Int).toNat * 5, none⟩ = some (.string ((rd_T26 y344 x5_1).f0)) := hcc7 0 _ rfl; have hx7_1 : w15.cell? ⟨go6, (x5_1 : Int).toNat * 5 + 1, none⟩ = some (.int .i64 ((rd_T26 y344 x5_1).f1)) := hcc7 1 _ rfl; have hx7_2 : w15.cell? ⟨go6, (x5_1 : Int).toNat * 5 + 2, none⟩ = some (.int .i64 ((rd_T26 y344 x5_1).f2)) := hcc7 2 _ rfl; have hx7_3 : w15.cell? ⟨go6, (x5_1 : Int).toNat * 5 + 3, none⟩ = some (.string ((rd_T26 y344 x5_1).f3)) := hcc7 3 _ rfl; have hx7_4 : w15.cell? ⟨go6, (x5_1 : Int).toNat * 5 + 4, none⟩ = some (.int .i64 ((rd_T26 y344 x5_1).f4)) := hcc7 4 _ rfl; have hf7_0 : w15.frozen? ⟨go6, (x5_1 : Int).toNat * 5, none⟩ = false := hfr7 0; have hf7_1 : w15.frozen? ⟨go6, (x5_1 : Int).toNat * 5 + 1, none⟩ = false := hfr7 1; have hf7_2 : w15.frozen? ⟨go6, (x5_1 : Int).toNat * 5 + 2, none⟩ = false := hfr7 2; have hf7_3 : w15.frozen? ⟨go6, (x5_1 : Int).toNat * 5 + 3, none⟩ = false := hfr7 3; have hf7_4 : w15.frozen? ⟨go6, (x5_1 : Int).toNat * 5 + 4, none⟩ = false := hfr7 4; clear hcl7 hcc7 hfr7 hM7; replace p7 := eq_true p7; replace q7 := eq_true q7; have HX16 := Aside0.mk (show Kd.R k26 26 w15 w0.heap.size (fun k_ => (P0_ k_ ∨ w.heap.size ≤ k_)) (.slice (some ⟨go6, 0, none⟩) x0_1.length co12) y344 from (z_143)); obtain ⟨ce16, hcl16, hM16, hcc16, hfr16⟩ := Kd.R_elem HX16.out z26 (x5_1 : Int) (of_decide_eq_true (z_7)) (z_147); obtain rfl := k26_openM hM16; have HP16 := Kd.R_seg HX16.out (x5_1 : Int) (of_decide_eq_true (z_7)) (z_147) (seg := [.int .i64 (wrap64 (x1_1 + 1))]) (j := 1) hcl16 hcc16 (show 2 ≤ 5 from z_19) (x' := (⟨(rd_T26 y344 x5_1).f0, wrap64 (x1_1 + 1), (rd_T26 y344 x5_1).f2, (rd_T26 y344 x5_1).f3, (rd_T26 y344 x5_1).f4⟩ : S26)) (k26_mkM _ _ _ (⟨(rd_T26 y344 x5_1).f0, wrap64 (x1_1 + 1), (rd_T26 y344 x5_1).f2, (rd_T26 y344 x5_1).f3, (rd_T26 y344 x5_1).f4⟩ : S26) ) (fun _ hk => hk); have hx16_1 := hcc16 1 _ rfl; (try simp only [show (k26).sz = 5 from rfl, Nat.mul_one, Nat.add_zero] at hx16_1); have hf16_1 := hfr16 1; (try simp only [show (k26).sz = 5 from rfl, Nat.mul_one, Nat.add_zero] at hf16_1); clear hcl16 hcc16 hfr16 hM16) | ((with_reducible refine gate_store (t := 3) (p := 24) rfl ?_); refine store_event (t := 3) (p := 24) (v := ?vo_w17) (w1 := (w15.setCell ⟨go6, (x5_1 : Int).toNat * 5 + 1, none⟩ (.int .i64 (wrap64 (x1_1 + 1))))) ?hg ?ho ?hn ?hr ?_; (case ho => rfl); (case hg => rfl); (case hn => rfl); (case hr => exact z_1); intro w17 hw; have hg : w15.grownBy w17 (some go6) := (by rw [hw]; exact HP16.2); have hp_ : Kd.R k26 26 w17 w0.heap.size (fun k_ => (P0_ k_ ∨ w.heap.size ≤ k_)) (.slice (some ⟨go6, 0, none⟩) x0_1.length co12) y345 := (by rw [hw, Ny345.out]; exact HP16.1); clear HP16; have n0_ := Aside0.mk (hp_); have n1_ := Aside0.mk ((z_148 : Below w0.heap.size w0 w17)); have n2_ := Aside0.mk (Kept.of_grown (S := (fun k_ => P0_ k_)) hg (z_142) (fun k_ e_ => (HO_0.out.1 k_ e_))); clear HO_0; clear HB; clear HK; have HO_0 := n0_; have HB := n1_; have HK := n2_; clear n0_ n1_ n2_; clear hg hw hp_; have p8 : 0 ≤ (x5_1 : Int) := of_decide_eq_true (z_7); have q8 : (x5_1 : Int) < ((x0_1.length : Int) : Int) := of_decide_eq_true (z_7); obtain ⟨ce8, hcl8, hM8, hcc8, hfr8⟩ := Kd.R_elem HO_0.out z26 (x5_1 : Int) p8 q8; obtain rfl := k26_openM hM8; have hx8_0 : w17.cell? ⟨go6, (x5_1 : Int).toNat * 5, none⟩ = some (.string ((rd_T26 y345 x5_1).f0)) := hcc8 0 _ rfl; have hx8_1 : w17.cell? ⟨go6, (x5_1 : Int).toNat * 5 + 1, none⟩ = some (.int .i64 ((rd_T26 y345 x5_1).f1)) := hcc8 1 _ rfl; have hx8_2 : w17.cell? ⟨go6, (x5_1 : Int).toNat * 5 + 2, none⟩ = some (.int .i64 ((rd_T26 y345 x5_1).f2)) := hcc8 2 _ rfl; have hx8_3 : w17.cell? ⟨go6, (x5_1 : Int).toNat * 5 + 3, none⟩ = some (.string ((rd_T26 y345 x5_1).f3)) := hcc8 3 _ rfl; have hx8_4 : w17.cell? ⟨go6, (x5_1 : Int).toNat * 5 + 4, none⟩ = some (.int .i64 ((rd_T26 y345 x5_1).f4)) := hcc8 4 _ rfl; have hf8_0 : w17.frozen? ⟨go6, (x5_1 : Int).toNat * 5, none⟩ = false := hfr8 0; have hf8_1 : w17.frozen? ⟨go6, (x5_1 : Int).toNat * 5 + 1, none⟩ = false := hfr8 1; have hf8_2 : w17.frozen? ⟨go6, (x5_1 : Int).toNat * 5 + 2, none⟩ = false := hfr8 2; have hf8_3 : w17.frozen? ⟨go6, (x5_1 : Int).toNat * 5 + 3, none⟩ = false := hfr8 3; have hf8_4 : w17.frozen? ⟨go6, (x5_1 : Int).toNat * 5 + 4, none⟩ = false := hfr8 4; clear hcl8 hcc8 hfr8 hM8; replace p8 := eq_true p8; replace q8 := eq_true q8; have HX18 := Aside0.mk (show Kd.R k26 26 w17 w0.heap.size (fun k_ => (P0_ k_ ∨ w.heap.size ≤ k_)) (.slice (some ⟨go6, 0, none⟩) x0_1.length co12) y345 from (z_143)); obtain ⟨ce18, hcl18, hM18, hcc18, hfr18⟩ := Kd.R_elem HX18.out z26 (x5_1 : Int) (of_decide_eq_true (z_7)) (z_147); obtain rfl := k26_openM hM18; have HP18 := Kd.R_seg HX18.out (x5_1 : Int) (of_decide_eq_true (z_7)) (z_147) (seg := [.int .i64 (wrap64 ((wrap64 (x1_1 + 1)) + 1))]) (j := 2) hcl18 hcc18 (show 3 ≤ 5 from z_19) (x' := (⟨(rd_T26 y345 x5_1).f0, (rd_T26 y345 x5_1).f1, wrap64 ((wrap64 (x1_1 + 1)) + 1), (rd_T26 y345 x5_1).f3, (rd_T26 y345 x5_1).f4⟩ : S26)) (k26_mkM _ _ _ (⟨(rd_T26 y345 x5_1).f0, (rd_T26 y345 x5_1).f1, wrap64 ((wrap64 (x1_1 + 1)) + 1), (rd_T26 y345 x5_1).f3, (rd_T26 y345 x5_1).f4⟩ : S26) ) (fun _ hk => hk); have hx18_2 := hcc18 2 _ rfl; (try simp only [show (k26).sz = 5 from rfl, Nat.mul_one, Nat.add_zero] at hx18_2); have hf18_2 := hfr18 2; (try simp only [show (k26).sz = 5 from rfl, Nat.mul_one, Nat.add_zero] at hf18_2); clear hcl18 hcc18 hfr18 hM18) | ((with_reducible refine gate_store (t := 3) (p := 31) rfl ?_); refine store_event (t := 3) (p := 31) (v := ?vo_w19) (w1 := (w17.setCell ⟨go6, (x5_1 : Int).toNat * 5 + 2, none⟩ (.int .i64 (wrap64 ((wrap64 (x1_1 + 1)) + 1))))) ?hg ?ho ?hn ?hr ?_; (case ho => rfl); (case hg => rfl); (case hn => rfl); (case hr => exact z_1); intro w19 hw; have hg : w17.grownBy w19 (some go6) := (by rw [hw]; exact HP18.2); have hp_ : Kd.R k26 26 w19 w0.heap.size (fun k_ => (P0_ k_ ∨ w.heap.size ≤ k_)) (.slice (some ⟨go6, 0, none⟩) x0_1.length co12) y346 := (by rw [hw, Ny346.out]; exact HP18.1); clear HP18; have n0_ := Aside0.mk (hp_); have n1_ := Aside0.mk ((z_148 : Below w0.heap.size w0 w19)); have n2_ := Aside0.mk (Kept.of_grown (S := (fun k_ => P0_ k_)) hg (z_142) (fun k_ e_ => (HO_0.out.1 k_ e_))); clear HO_0; clear HB; clear HK; have HO_0 := n0_; have HB := n1_; have HK := n2_; clear n0_ n1_ n2_; clear hg hw hp_) | ((with_reducible refine gate_callee (f := 77) rfl ?_); refine goesL_ (some 37) rfl rfl Try.func77 (z_0) rfl #[.int .i64 (wrap64 ((wrap64 ((wrap64 (x1_1 + 1)) + 1)) + 1))] rfl (z_8) ?_; (with_reducible refine (laws_markText.calls k1 (wrap64 ((wrap64 ((wrap64 (x1_1 + 1)) + 1)) + 1)) t347 _ A9.out).mono ?_); rintro e w20 ⟨rfl, hb⟩; refine ⟨_, rfl, ?_⟩; have n0_ := Aside0.mk (Kd.R_below (z_143) hb); have n1_ := Aside0.mk (Kept.below (S := (fun k_ => P0_ k_)) (z_142) hb); have n2_ := Aside0.mk (below_step (z_2) hb); clear HO_0; clear HK; clear HB; have HO_0 := n0_; have HK := n1_; have HB := n2_; clear n0_ n1_ n2_; (try clear hb); (try clear hb2); (try clear hk); (try clear hi); have p10 : 0 ≤ (x5_1 : Int) := of_decide_eq_true (z_7); have q10 : (x5_1 : Int) < ((x0_1.length : Int) : Int) := of_decide_eq_true (z_7); obtain ⟨ce10, hcl10, hM10, hcc10, hfr10⟩ := Kd.R_elem HO_0.out z26 (x5_1 : Int) p10 q10; obtain rfl := k26_openM hM10; have hx10_0 : w20.cell? ⟨go6, (x5_1 : Int).toNat * 5, none⟩ = some (.string ((rd_T26 y346 x5_1).f0)) := hcc10 0 _ rfl; have hx10_1 : w20.cell? ⟨go6, (x5_1 : Int).toNat * 5 + 1, none⟩ = some (.int .i64 ((rd_T26 y346 x5_1).f1)) := hcc10 1 _ rfl; have hx10_2 : w20.cell? ⟨go6, (x5_1 : Int).toNat * 5 + 2, none⟩ = some (.int .i64 ((rd_T26 y346 x5_1).f2)) := hcc10 2 _ rfl; have hx10_3 : w20.cell? ⟨go6, (x5_1 : Int).toNat * 5 + 3, none⟩ = some (.string ((rd_T26 y346 x5_1).f3)) := hcc10 3 _ rfl; have hx10_4 : w20.cell? ⟨go6, (x5_1 : Int).toNat * 5 + 4, none⟩ = some (.int .i64 ((rd_T26 y346 x5_1).f4)) := hcc10 4 _ rfl; have hf10_0 : w20.frozen? ⟨go6, (x5_1 : Int).toNat * 5, none⟩ = false := hfr10 0; have hf10_1 : w20.frozen? ⟨go6, (x5_1 : Int).toNat * 5 + 1, none⟩ = false := hfr10 1; have hf10_2 : w20.frozen? ⟨go6, (x5_1 : Int).toNat * 5 + 2, none⟩ = false := hfr10 2; have hf10_3 : w20.frozen? ⟨go6, (x5_1 : Int).toNat * 5 + 3, none⟩ = false := hfr10 3; have hf10_4 : w20.frozen? ⟨go6, (x5_1 : Int).toNat * 5 + 4, none⟩ = false := hfr10 4; clear hcl10 hcc10 hfr10 hM10; replace p10 := eq_true p10; replace q10 := eq_true q10; have HX21 := Aside0.mk (show Kd.R k26 26 w20 w0.heap.size (fun k_ => (P0_ k_ ∨ w.heap.size ≤ k_)) (.slice (some ⟨go6, 0, none⟩) x0_1.length co12) y346 from (z_143)); obtain ⟨ce21, hcl21, hM21, hcc21, hfr21⟩ := Kd.R_elem HX21.out z26 (x5_1 : Int) (of_decide_eq_true (z_7)) (z_147); obtain rfl := k26_openM hM21; have HP21 := Kd.R_seg HX21.out (x5_1 : Int) (of_decide_eq_true (z_7)) (z_147) (seg := [.string t347]) (j := 3) hcl21 hcc21 (show 4 ≤ 5 from z_19) (x' := (⟨(rd_T26 y346 x5_1).f0, (rd_T26 y346 x5_1).f1, (rd_T26 y346 x5_1).f2, t347, (rd_T26 y346 x5_1).f4⟩ : S26)) (k26_mkM _ _ _ (⟨(rd_T26 y346 x5_1).f0, (rd_T26 y346 x5_1).f1, (rd_T26 y346 x5_1).f2, t347, (rd_T26 y346 x5_1).f4⟩ : S26) ) (fun _ hk => hk); have hx21_3 := hcc21 3 _ rfl; (try simp only [show (k26).sz = 5 from rfl, Nat.mul_one, Nat.add_zero] at hx21_3); have hf21_3 := hfr21 3; (try simp only [show (k26).sz = 5 from rfl, Nat.mul_one, Nat.add_zero] at hf21_3); clear hcl21 hcc21 hfr21 hM21) | ((with_reducible refine gate_store (t := 9) (p := 39) rfl ?_); refine store_event (t := 9) (p := 39) (v := ?vo_w22) (w1 := (w20.setCell ⟨go6, (x5_1 : Int).toNat * 5 + 3, none⟩ (.string t347))) ?hg ?ho ?hn ?hr ?_; (case ho => rfl); (case hg => rfl); (case hn => rfl); (case hr => exact z_1); intro w22 hw; have hg : w20.grownBy w22 (some go6) := (by rw [hw]; exact HP21.2); have hp_ : Kd.R k26 26 w22 w0.heap.size (fun k_ => (P0_ k_ ∨ w.heap.size ≤ k_)) (.slice (some ⟨go6, 0, none⟩) x0_1.length co12) y348 := (by rw [hw, Ny348.out]; exact HP21.1); clear HP21; have n0_ := Aside0.mk (hp_); have n1_ := Aside0.mk ((z_148 : Below w0.heap.size w0 w22)); have n2_ := Aside0.mk (Kept.of_grown (S := (fun k_ => P0_ k_)) hg (z_142) (fun k_ e_ => (HO_0.out.1 k_ e_))); clear HO_0; clear HB; clear HK; have HO_0 := n0_; have HB := n1_; have HK := n2_; clear n0_ n1_ n2_; clear hg hw hp_; have p11 : 0 ≤ (x5_1 : Int) := of_decide_eq_true (z_7); have q11 : (x5_1 : Int) < ((x0_1.length : Int) : Int) := of_decide_eq_true (z_7); obtain ⟨ce11, hcl11, hM11, hcc11, hfr11⟩ := Kd.R_elem HO_0.out z26 (x5_1 : Int) p11 q11; obtain rfl := k26_openM hM11; have hx11_0 : w22.cell? ⟨go6, (x5_1 : Int).toNat * 5, none⟩ = some (.string ((rd_T26 y348 x5_1).f0)) := hcc11 0 _ rfl; have hx11_1 : w22.cell? ⟨go6, (x5_1 : Int).toNat * 5 + 1, none⟩ = some (.int .i64 ((rd_T26 y348 x5_1).f1)) := hcc11 1 _ rfl; have hx11_2 : w22.cell? ⟨go6, (x5_1 : Int).toNat * 5 + 2, none⟩ = some (.int .i64 ((rd_T26 y348 x5_1).f2)) := hcc11 2 _ rfl; have hx11_3 : w22.cell? ⟨go6, (x5_1 : Int).toNat * 5 + 3, none⟩ = some (.string ((rd_T26 y348 x5_1).f3)) := hcc11 3 _ rfl; have hx11_4 : w22.cell? ⟨go6, (x5_1 : Int).toNat * 5 + 4, none⟩ = some (.int .i64 ((rd_T26 y348 x5_1).f4)) := hcc11 4 _ rfl; have hf11_0 : w22.frozen? ⟨go6, (x5_1 : Int).toNat * 5, none⟩ = false := hfr11 0; have hf11_1 : w22.frozen? ⟨go6, (x5_1 : Int).toNat * 5 + 1, none⟩ = false := hfr11 1; have hf11_2 : w22.frozen? ⟨go6, (x5_1 : Int).toNat * 5 + 2, none⟩ = false := hfr11 2; have hf11_3 : w22.frozen? ⟨go6, (x5_1 : Int).toNat * 5 + 3, none⟩ = false := hfr11 3; have hf11_4 : w22.frozen? ⟨go6, (x5_1 : Int).toNat * 5 + 4, none⟩ = false := hfr11 4; clear hcl11 hcc11 hfr11 hM11; replace p11 := eq_true p11; replace q11 := eq_true q11; have HX23 := Aside0.mk (show Kd.R k26 26 w22 w0.heap.size (fun k_ => (P0_ k_ ∨ w.heap.size ≤ k_)) (.slice (some ⟨go6, 0, none⟩) x0_1.length co12) y348 from (z_143)); obtain ⟨ce23, hcl23, hM23, hcc23, hfr23⟩ := Kd.R_elem HX23.out z26 (x5_1 : Int) (of_decide_eq_true (z_7)) (z_147); obtain rfl := k26_openM hM23; have HP23 := Kd.R_seg HX23.out (x5_1 : Int) (of_decide_eq_true (z_7)) (z_147) (seg := [.int .i64 (wrap64 ((wrap64 ((wrap64 ((wrap64 (x1_1 + 1)) + 1)) + 1)) + 1))]) (j := 4) hcl23 hcc23 (show 5 ≤ 5 from z_19) (x' := (⟨(rd_T26 y348 x5_1).f0, (rd_T26 y348 x5_1).f1, (rd_T26 y348 x5_1).f2, (rd_T26 y348 x5_1).f3, wrap64 ((wrap64 ((wrap64 ((wrap64 (x1_1 + 1)) + 1)) + 1)) + 1)⟩ : S26)) (k26_mkM _ _ _ (⟨(rd_T26 y348 x5_1).f0, (rd_T26 y348 x5_1).f1, (rd_T26 y348 x5_1).f2, (rd_T26 y348 x5_1).f3, wrap64 ((wrap64 ((wrap64 ((wrap64 (x1_1 + 1)) + 1)) + 1)) + 1)⟩ : S26) ) (fun _ hk => hk); have hx23_4 := hcc23 4 _ rfl; (try simp only [show (k26).sz = 5 from rfl, Nat.mul_one, Nat.add_zero] at hx23_4); have hf23_4 := hfr23 4; (try simp only [show (k26).sz = 5 from rfl, Nat.mul_one, Nat.add_zero] at hf23_4); clear hcl23 hcc23 hfr23 hM23) | ((with_reducible refine gate_store (t := 3) (p := 46) rfl ?_); refine store_event (t := 3) (p := 46) (v := ?vo_w24) (w1 := (w22.setCell ⟨go6, (x5_1 : Int).toNat * 5 + 4, none⟩ (.int .i64 (wrap64 ((wrap64 ((wrap64 ((wrap64 (x1_1 + 1)) + 1)) + 1)) + 1))))) ?hg ?ho ?hn ?hr ?_; (case ho => rfl); (case hg => rfl); (case hn => rfl); (case hr => exact z_1); intro w24 hw; have hg : w22.grownBy w24 (some go6) := (by rw [hw]; exact HP23.2); have hp_ : Kd.R k26 26 w24 w0.heap.size (fun k_ => (P0_ k_ ∨ w.heap.size ≤ k_)) (.slice (some ⟨go6, 0, none⟩) x0_1.length co12) y349 := (by rw [hw, Ny349.out]; exact HP23.1); clear HP23; have n0_ := Aside0.mk (hp_); have n1_ := Aside0.mk ((z_148 : Below w0.heap.size w0 w24)); have n2_ := Aside0.mk (Kept.of_grown (S := (fun k_ => P0_ k_)) hg (z_142) (fun k_ e_ => (HO_0.out.1 k_ e_))); clear HO_0; clear HB; clear HK; have HO_0 := n0_; have HB := n1_; have HK := n2_; clear n0_ n1_ n2_; clear hg hw hp_))
     go_roundg k1
     case measure => have := HK1.out; omega
     case rel => exact ⟨(y349), (wrap64 ((wrap64 ((wrap64 ((wrap64 ((wrap64 (x1_1 + 1)) + 1)) + 1)) + 1)) + 1)), (wrap64 (x5_1 + 1)), (z_6), (z_6), H', ⟨z_9⟩, ⟨z_143⟩, ⟨z_142⟩, ⟨z_2⟩⟩
    ·rw [if_neg c5] at H
     exact absurd H (z_10)
   ·rw [if_neg c3] at H
    have c3b0 : decide (x5_1 < (x0_1.length : Int)) = false := decide_eq_false c3
    clear c3
    simp only [Option.some.injEq, Prod.mk.injEq] at H
    obtain ⟨rfl, rfl⟩ := H
    obtain ⟨Ao25, co25, eo25⟩ := Kd.R_slice HO_0.out
    subst eo25
    go_wp2
    go_ret
    exact ⟨z_4, z_143, z_2, z_142⟩

end Go.Proofs.Ytmgnmgobibpjjaa.GFnExactKeptFind
