/- What the Go functions that FnKeptOk reaches come to, walked step by step; there is no condition beyond those each statement names. -/
import Derived.Test.YtmgnmgobibpjjaaGFnKeptOkx0
import Derived.Test.YtmgnmgobibpjjaaGFnKeptOkx1
import Derived.Test.YtmgnmgobibpjjaaGFnKeptOkx2
import Derived.Test.YtmgnmgobibpjjaaGFnKeptOkx4
import Derived.Test.YtmgnmgobibpjjaaGFnKeptOkx5
import Derived.Test.YtmgnmgobibpjjaaGFnKeptOkx6
import Derived.Test.YtmgnmgobibpjjaaGFnKeptOkx9
namespace Go.Proofs.Ytmgnmgobibpjjaa.GFnKeptOk
open Go.RowKit Go.Proofs.YtmgnmgobibpjjaaVKeptOk.PrintWords Go.Proofs.YtmgnmgobibpjjaaVKeptOk.PrintLast Go.Proofs.YtmgnmgobibpjjaaVKeptOk.PrintMore
attribute [local go_sem] max2_int min2_int max_two min_two max_three min_three max_four min_four   -- for this text's walks alone
set_option linter.unusedVariables false
set_option linter.unusedSimpArgs false

/-! ### spec_l20Kept: function 72 -/
mutual
def spec_l20Kept.l0 : Nat → List (S26) → Int → List (S83) → Int → List Int → Int → Option ((List (S83)) × Int)
 | 0, _, _, _, _, _, _ => none
 | k + 1, x1, x2, x7, x8, x1000, x1001 => if x8 > 0 then ((spec_l20Text.f k x1000 x1001).bind fun bt274 => ((spec_l20Rd_pick.f k x1000 bt274.2 20).bind fun bt276 => ((spec_KeptAsk.f k x7 x1 bt274.1 bt276.1).bind fun bt278 => (spec_l20Kept.l0 k x1 x2 bt278.1 (wrap64 (x8 - 1)) x1000 bt276.2)))) else (if (x7.length : Int) > 0 then ((spec_l20Rd_odd.f k x1000 x1001 x2).bind fun bt287 => (spec_l20Kept.j1 k x7 bt287.1 x1000 bt287.2)) else (spec_l20Kept.j1 k x7 false x1000 x1001))
def spec_l20Kept.j1 : Nat → List (S83) → Bool → List Int → Int → Option ((List (S83)) × Int)
 | 0, _, _, _, _ => none
 | k + 1, x7, x34, x1000, x1001 => if x34 = true then ((spec_l20Rd_pick.f k x1000 x1001 3).bind fun bt289 => (if bt289.1 = 0 then (if 0 < (x7.length : Int) then (if x7.length < 2199023255552 then (some ((x7 ++ [(⟨(⟨(rd_T83 x7 0).f0.f0, (rd_T83 x7 0).f0.f1, (rd_T83 x7 0).f0.f2, (rd_T83 x7 0).f0.f3, (rd_T83 x7 0).f0.f4⟩ : S26), (rd_T83 x7 0).f1⟩ : S83)]), bt289.2)) else (none)) else (none)) else (if bt289.1 = 1 then (if 0 < (x7.length : Int) then (some ((x7.set (0 : Int).toNat (⟨(⟨(rd_T83 x7 0).f0.f0, (rd_T83 x7 0).f0.f1, (rd_T83 x7 0).f0.f2, (rd_T83 x7 0).f0.f3, (rd_T83 x7 0).f0.f4⟩ : S26), (-1)⟩ : S83)), bt289.2)) else (none)) else (if 0 < (x7.length : Int) then (some ((x7.set (0 : Int).toNat (⟨(⟨(⟨#[]⟩ : ByteArray), (rd_T83 x7 0).f0.f1, (rd_T83 x7 0).f0.f2, (rd_T83 x7 0).f0.f3, (rd_T83 x7 0).f0.f4⟩ : S26), (rd_T83 x7 0).f1⟩ : S83)), bt289.2)) else (none))))) else (some (x7, x1001))
end
def spec_l20Kept.f (k : Nat) (s0_0 : List Int) (s0_1 : Int) (l1 : List (S26)) (a2 : Int) : Option ((List (S83)) × Int) := (spec_l20Rd_pick.f k s0_0 s0_1 9).bind fun bt272 => (spec_l20Kept.l0 k l1 a2 (([] : List (S83))) bt272.1 s0_0 bt272.2)
theorem spec_l20Kept.mono_l : ∀ k, (∀ y0 y1 y2 y3 y4 y5, LeO (spec_l20Kept.l0 k y0 y1 y2 y3 y4 y5) (spec_l20Kept.l0 (k + 1) y0 y1 y2 y3 y4 y5)) ∧ (∀ y0 y1 y2 y3, LeO (spec_l20Kept.j1 k y0 y1 y2 y3) (spec_l20Kept.j1 (k + 1) y0 y1 y2 y3))
 | 0 => ⟨fun _ _ _ _ _ _ r h => by simp [spec_l20Kept.l0] at h, fun _ _ _ _ r h => by simp [spec_l20Kept.j1] at h⟩
 | k + 1 => by
  obtain ⟨ih0, ih1⟩ := spec_l20Kept.mono_l k
  refine ⟨?_, ?_⟩
  ·intro y0 y1 y2 y3 y4 y5
   unfold spec_l20Kept.l0
   repeat' first
   | (with_reducible exact ih0 _ _ _ _ _ _)
   | (with_reducible exact ih1 _ _ _ _)
   | (with_reducible exact spec_KeptAsk.mono _ _ _ _ _)
   | (with_reducible exact spec_l20Rd_odd.mono _ _ _ _)
   | (with_reducible exact spec_l20Rd_pick.mono _ _ _ _)
   | (with_reducible exact spec_l20Text.mono _ _ _)
   | (with_reducible exact LeO.refl _)
   | (with_reducible exact LeO.none _)
   | (with_reducible refine LeO.ite ?_ ?_)
   | (with_reducible refine LeO.bind ?_ (fun _ => ?_))
   | exact ih0 _ _ _ _ _ _
   | exact ih1 _ _ _ _
   | exact spec_KeptAsk.mono _ _ _ _ _
   | exact spec_l20Rd_odd.mono _ _ _ _
   | exact spec_l20Rd_pick.mono _ _ _ _
   | exact spec_l20Text.mono _ _ _
   | exact LeO.none _
   | refine LeO.ite ?_ ?_
   | refine LeO.bind ?_ (fun _ => ?_)
  ·intro y0 y1 y2 y3
   unfold spec_l20Kept.j1
   repeat' first
   | (with_reducible exact ih0 _ _ _ _ _ _)
   | (with_reducible exact ih1 _ _ _ _)
   | (with_reducible exact spec_KeptAsk.mono _ _ _ _ _)
   | (with_reducible exact spec_l20Rd_odd.mono _ _ _ _)
   | (with_reducible exact spec_l20Rd_pick.mono _ _ _ _)
   | (with_reducible exact spec_l20Text.mono _ _ _)
   | (with_reducible exact LeO.refl _)
   | (with_reducible exact LeO.none _)
   | (with_reducible refine LeO.ite ?_ ?_)
   | (with_reducible refine LeO.bind ?_ (fun _ => ?_))
   | exact ih0 _ _ _ _ _ _
   | exact ih1 _ _ _ _
   | exact spec_KeptAsk.mono _ _ _ _ _
   | exact spec_l20Rd_odd.mono _ _ _ _
   | exact spec_l20Rd_pick.mono _ _ _ _
   | exact spec_l20Text.mono _ _ _
   | exact LeO.none _
   | refine LeO.ite ?_ ?_
   | refine LeO.bind ?_ (fun _ => ?_)
theorem spec_l20Kept.mono : ∀ a0 a1 a2 a3 k, LeO (spec_l20Kept.f k a0 a1 a2 a3) (spec_l20Kept.f (k + 1) a0 a1 a2 a3) := by
 intro a0 a1 a2 a3 k
 obtain ⟨ih0, ih1⟩ := spec_l20Kept.mono_l k
 unfold spec_l20Kept.f
 repeat' first
   | (with_reducible exact ih0 _ _ _ _ _ _)
   | (with_reducible exact ih1 _ _ _ _)
   | (with_reducible exact spec_KeptAsk.mono _ _ _ _ _)
   | (with_reducible exact spec_l20Rd_odd.mono _ _ _ _)
   | (with_reducible exact spec_l20Rd_pick.mono _ _ _ _)
   | (with_reducible exact spec_l20Text.mono _ _ _)
   | (with_reducible exact LeO.refl _)
   | (with_reducible exact LeO.none _)
   | (with_reducible refine LeO.ite ?_ ?_)
   | (with_reducible refine LeO.bind ?_ (fun _ => ?_))
   | exact ih0 _ _ _ _ _ _
   | exact ih1 _ _ _ _
   | exact spec_KeptAsk.mono _ _ _ _ _
   | exact spec_l20Rd_odd.mono _ _ _ _
   | exact spec_l20Rd_pick.mono _ _ _ _
   | exact spec_l20Text.mono _ _ _
   | exact LeO.none _
   | refine LeO.ite ?_ ?_
   | refine LeO.bind ?_ (fun _ => ?_)
set_option maxHeartbeats 8000000 in
set_option maxRecDepth 100000 in
theorem spec_l20Kept.calls (k : Nat) (g : Nat) (s0_0 : List Int) (s0_1 : Int) (A1 : Option Addr) (c1 : Nat) (l1 : List (S26)) (a2 : Int) (r1 : List (S83)) (r2 : Int) (w0 w : World) (hI : IsS96 w0 w g s0_0 s0_1) (hB : Below w0.heap.size w0 w) (hr1 : ∀ W_, KeepBut w W_ g none → Kd.C k26 W_ A1 l1.length l1) (hc1 : l1.length ≤ c1) (h : spec_l20Kept.f k s0_0 s0_1 l1 a2 = some (r1, r2)) :
  Calls Try.prog 72 #[.pointer (some ⟨g, 0, none⟩), .slice A1 l1.length c1, .int .i64 a2] w fun e w' => ∃ v0_ : Value, e = .returned (v0_) ∧ Kd.Q k83 83 w' w.heap.size (fun _ => True) v0_ r1 ∧ IsS96 w0 w' g s0_0 r2 ∧ Below w0.heap.size w0 w' ∧ KeepBut w w' g none := by
 have hu83 := Try.underlying83
 have HR1 := Aside0.mk hr1
 have HC1 := Aside0.mk hc1
 clear hr1 hc1
 have HI0 := Aside0.mk hI
 have HK := Aside0.mk (KeepBut.refl w g none)
 have HL := Aside0.mk hB.size
 clear hI
 have HW0 := Aside0.mk hB.size
 have HB := Aside0.mk hB
 clear hB
 have H : ((spec_l20Rd_pick.f k s0_0 s0_1 9).bind fun bt272 => (spec_l20Kept.l0 k l1 a2 (([] : List (S83))) bt272.1 s0_0 bt272.2)) = some (r1, r2) := h
 clear h
 obtain ⟨y269, hy269⟩ : ∃ y_ : List (S83), y_ = (([] : List (S83))) := ⟨_, rfl⟩
 replace H : ((spec_l20Rd_pick.f k s0_0 s0_1 9).bind fun bt272 => (spec_l20Kept.l0 k l1 a2 y269 bt272.1 s0_0 bt272.2)) = some (r1, r2) := by first | (rw [hy269]; with_reducible exact H) | (have H2_ := (Option.bind_some _ _).symm.trans H; rw [hy269]; with_reducible exact H2_) | (have H2_ := (Option.bind_some _ _).symm.trans H; with_reducible exact H2_) | with_reducible exact H | (rw [hy269]; exact H) | exact H
 have Ny269 := Aside0.mk hy269
 clear hy269
 replace H := Option.bind_eq_some_iff.mp H
 obtain ⟨⟨t272, t273⟩, A40, H⟩ := H
 replace H : (spec_l20Kept.l0 k l1 a2 y269 t272 s0_0 t273) = some (r1, r2) := H
 have A4 := Aside0.mk A40
 clear A40
 have H' := Aside0.mk H
 clear H
 go_enter Try.func72, Try.ntmps72
 go_wp2_with (first | ((with_reducible refine gate_dst (N := 9) rfl ?_); refine Kd.R_lit k83 _ 83 ?hg (N := 9) ?hd (xs := ([] : List (S83))) (inner := []) (ok := fun _ => True) (okp := fun _ => True) ?hr ?hp (fun _ hk => hk) trivial (Below.refl _ _) (Nat.le_refl _) (z_10) ?_; (case hd => rfl); (case hg => rfl); (case hr => exact z_7); (case hp => exact z_44); intro v270 w5 ho6 hb hg_ hnew_; clear hg_ hnew_; (first | rw [← Ny269.out] at ho6 | (simp only [Int.reduceToNat] at ho6; rw [← Ny269.out] at ho6)); have n0_ := Aside0.mk (Kd.R_lower ho6 (keep_size (w := w) (g := g) (row := none) (z_32))); have n1_ := Aside0.mk (IsS96.below (z_31) hb); have n2_ := Aside0.mk (KeepBut.trans (z_32) (KeepBut.of_below hb g none) (.inl rfl)); have n3_ := Aside0.mk (below_step (z_33) hb); clear HI0; clear HK; clear HB; have HO271 := n0_; have HI0 := n1_; have HK := n2_; have HB := n3_; clear n0_ n1_ n2_ n3_; clear hb ho6) | ((with_reducible refine gate_callee (f := 69) rfl ?_); refine goesL_ (some 11) rfl rfl Try.func69 (z_0) rfl #[.pointer (some ⟨g, 0, none⟩), .int .i64 9] rfl (z_12) ?_; (with_reducible refine (spec_l20Rd_pick.calls k g s0_0 s0_1 9 t272 t273 w0 _ ?side1 ?side2 A4.out).mono ?_); (case side1 => exact z_31); (case side2 => exact z_33); rintro e w7 ⟨rfl, hi, hb, hk⟩; refine ⟨_, rfl, ?_⟩; have n0_ := Aside0.mk (Kd.R_mono (Kd.R_keep (IsS96.apart (show IsS96 w0 _ g s0_0 s0_1 from z_31) (z_81) (z_3)) hk (fun _ h => h.2)) (fun _ h => h.1)); have n1_ := Aside0.mk (KeepBut.trans (z_32) hk (.inl rfl)); have n2_ := Aside0.mk (hb); have n3_ := Aside0.mk (hi); clear HO271; clear HK; clear HB; clear HI0; have HO271 := n0_; have HK := n1_; have HB := n2_; have HI0 := n3_; clear n0_ n1_ n2_ n3_; (try clear hb); (try clear hb2); (try clear hk); (try clear hi)))
 go_loopg [7, 8] k (fun kq v7 v8 w' => ∃ (x7_1 : List (S83)) (x8_1 : Int) (x1001_1 : Int), v8 = .int .i64 x8_1 ∧ Aside0 (spec_l20Kept.l0 kq l1 a2 x7_1 x8_1 s0_0 x1001_1 = some (r1, r2)) ∧ Aside0 (kq ≤ k) ∧ Aside0 (Kd.Q k83 83 w' w.heap.size (fun _ => True) v7 x7_1) ∧ Aside0 (IsS96 w0 w' g s0_0 x1001_1) ∧ Aside0 (KeepBut w w' g none) ∧ Aside0 (Below w0.heap.size w0 w'))
 case atStart => exact ⟨(y269), (t272), (t273), (z_1), H', ⟨Nat.le_refl _⟩, ⟨Kd.Q_of_R (z_81)⟩, ⟨z_31⟩, ⟨z_32⟩, ⟨z_33⟩⟩
 case round =>
  clear H'
  try clear c1
  try clear p2
  try clear c6
  try clear c7
  obtain ⟨x7_1, x8_1, x1001_1, rfl, HA, HK1, HO_7, HI0, HK, HB⟩ := hrel
  cases gk with
  | zero => exact absurd HA.out (by simp [spec_l20Kept.l0])
  | succ k1 =>
   have H := HA.out
   clear HA
   simp only [spec_l20Kept.l0] at H
   by_cases c8 : x8_1 > 0
   ·rw [if_pos c8] at H
    have c8b0 : decide (0 < x8_1) = true := decide_eq_true c8
    clear c8
    replace H := Option.bind_eq_some_iff.mp H
    obtain ⟨⟨t274, t275⟩, A90, H⟩ := H
    replace H : ((spec_l20Rd_pick.f k1 s0_0 t275 20).bind fun bt276 => ((spec_KeptAsk.f k1 x7_1 l1 t274 bt276.1).bind fun bt278 => (spec_l20Kept.l0 k1 l1 a2 bt278.1 (wrap64 (x8_1 - 1)) s0_0 bt276.2))) = some (r1, r2) := H
    have A9 := Aside0.mk A90
    clear A90
    replace H := Option.bind_eq_some_iff.mp H
    obtain ⟨⟨t276, t277⟩, A100, H⟩ := H
    replace H : ((spec_KeptAsk.f k1 x7_1 l1 t274 t276).bind fun bt278 => (spec_l20Kept.l0 k1 l1 a2 bt278.1 (wrap64 (x8_1 - 1)) s0_0 t277)) = some (r1, r2) := H
    have A10 := Aside0.mk A100
    clear A100
    replace H := Option.bind_eq_some_iff.mp H
    obtain ⟨⟨t278, t281, t282, t283, t284, t285, t286⟩, A110, H⟩ := H
    replace H : (spec_l20Kept.l0 k1 l1 a2 t278 (wrap64 (x8_1 - 1)) s0_0 t277) = some (r1, r2) := H
    have A11 := Aside0.mk A110
    clear A110
    have H' := Aside0.mk H
    clear H
    go_wp2_with (first | ((with_reducible refine gate_callee (f := 68) rfl ?_); refine goesL_ (some 20) rfl rfl Try.func68 (z_0) rfl #[.pointer (some ⟨g, 0, none⟩)] rfl (z_12) ?_; (with_reducible refine (spec_l20Text.calls k1 g s0_0 x1001_1 t274 t275 w0 _ ?side1 ?side2 A9.out).mono ?_); (case side1 => exact z_31); (case side2 => exact z_33); rintro e w12 ⟨rfl, hi, hb, hk⟩; refine ⟨_, rfl, ?_⟩; have n0_ := Aside0.mk (Kd.Q_mono (Kd.Q_keep (IsS96.apartQ (show IsS96 w0 _ g s0_0 x1001_1 from z_31) (z_82) (z_3)) hk (fun _ h => h.2)) (fun _ h => h.1)); have n1_ := Aside0.mk (KeepBut.trans (z_32) hk (.inl rfl)); have n2_ := Aside0.mk (hb); have n3_ := Aside0.mk (hi); clear HO_7; clear HK; clear HB; clear HI0; have HO_7 := n0_; have HK := n1_; have HB := n2_; have HI0 := n3_; clear n0_ n1_ n2_ n3_; (try clear hb); (try clear hb2); (try clear hk); (try clear hi)) | ((with_reducible refine gate_callee (f := 69) rfl ?_); refine goesL_ (some 22) rfl rfl Try.func69 (z_0) rfl #[.pointer (some ⟨g, 0, none⟩), .int .i64 20] rfl (z_12) ?_; (with_reducible refine (spec_l20Rd_pick.calls k1 g s0_0 t275 20 t276 t277 w0 _ ?side1 ?side2 A10.out).mono ?_); (case side1 => exact z_31); (case side2 => exact z_33); rintro e w13 ⟨rfl, hi, hb, hk⟩; refine ⟨_, rfl, ?_⟩; have n0_ := Aside0.mk (Kd.Q_mono (Kd.Q_keep (IsS96.apartQ (show IsS96 w0 _ g s0_0 t275 from z_31) (z_82) (z_3)) hk (fun _ h => h.2)) (fun _ h => h.1)); have n1_ := Aside0.mk (KeepBut.trans (z_32) hk (.inl rfl)); have n2_ := Aside0.mk (hb); have n3_ := Aside0.mk (hi); clear HO_7; clear HK; clear HB; clear HI0; have HO_7 := n0_; have HK := n1_; have HB := n2_; have HI0 := n3_; clear n0_ n1_ n2_ n3_; (try clear hb); (try clear hb2); (try clear hk); (try clear hi); obtain ⟨Ao14, co14, eo14, _⟩ := Kd.Q_slice HO_7.out; subst eo14) | ((with_reducible refine gate_callee (f := 45) rfl ?_); refine goesL_ (some 23) rfl rfl Try.func45 (z_0) rfl #[.slice Ao14 x7_1.length co14, .slice A1 l1.length c1, .string t274, .int .i64 t276] rfl (z_12) ?_; (with_reducible refine (spec_KeptAsk.calls k1 _ _ x7_1 _ _ l1 t274 t276 t278 t281 t282 t283 t284 t285 t286 _ ?side1 ?side2 ?side3 ?side4 A11.out).mono ?_); (case side1 => repeat (first | exact (Kd.Q_reads' HO_7.out).2.2 | (with_reducible refine Kd.C_alloc ?_ _) | (with_reducible refine Kd.C_drewN ?_ _) | (with_reducible refine Kd.C_drew ?_))); (case side2 => exact (Kd.Q_reads' HO_7.out).2.1); (case side3 => exact Kd.C_foot_now HR1.out (z_32)); (case side4 => exact HC1.out); rintro e w15 ⟨v279, rfl, ho0, hb⟩; refine ⟨_, rfl, ?_⟩; have n0_ := Aside0.mk (Kd.Q_elder' (z_82) (Kd.Q_base ho0) hb); have n1_ := Aside0.mk (Kd.Q_lower (Kd.Q_new' ho0 (Kd.Q_lt (z_82))) (keep_size (w := w) (g := g) (row := none) (z_32))); have n2_ := Aside0.mk (IsS96.below (z_31) hb); have n3_ := Aside0.mk (KeepBut.trans (z_32) (KeepBut.of_below hb g none) (.inl rfl)); have n4_ := Aside0.mk (below_step (z_33) hb); clear HO_7; clear HI0; clear HK; clear HB; have HO_7 := n0_; have HO280 := n1_; have HI0 := n2_; have HK := n3_; have HB := n4_; clear n0_ n1_ n2_ n3_ n4_; (try clear hb); (try clear hb2); (try clear hk); (try clear hi); (try clear ho0)))
    go_roundg k1
    case measure => have := HK1.out; omega
    case rel => exact ⟨(t278), (wrap64 (x8_1 - 1)), (t277), (z_1), H', ⟨z_8⟩, ⟨by (with_reducible repeat (first | apply Kd.Q_alloc | apply Kd.Q_drewN | apply Kd.Q_drew)); exact Kd.Q_mono HO280.out (fun _ hk => trivial)⟩, ⟨z_31⟩, ⟨z_32⟩, ⟨z_33⟩⟩
   ·rw [if_neg c8] at H
    have c8b0 : decide (0 < x8_1) = false := decide_eq_false c8
    clear c8
    have HC16 := Aside0.mk H
    clear H
    go_upto_region 6 with (fail)
    go_cut [34] (fun v34 wc => ∃ (kq : Nat) (x34_15 : Bool) (x1001_15 : Int), v34 = .bool x34_15 ∧ Aside0 (spec_l20Kept.j1 kq x7_1 x34_15 s0_0 x1001_15 = some (r1, r2)) ∧ Aside0 (kq ≤ k1) ∧ Aside0 (Kd.Q k83 83 wc w.heap.size (fun _ => True) u7 x7_1) ∧ Aside0 (IsS96 w0 wc g s0_0 x1001_15) ∧ Aside0 (KeepBut w wc g none) ∧ Aside0 (Below w0.heap.size w0 wc))
    case first =>
     have H := HC16.out
     clear HC16
     by_cases c17 : (x7_1.length : Int) > 0
     ·rw [if_pos c17] at H
      have c17b0 : decide (0 < (x7_1.length : Int)) = true := decide_eq_true c17
      have c17b1 : decide (0 < x7_1.length) = true := decide_eq_true (z_4)
      clear c17
      (first | rw [c17b0] | (simp only [i64_w, i32_w]; rw [c17b0]) | skip)
      replace H := Option.bind_eq_some_iff.mp H
      obtain ⟨⟨t287, t288⟩, A180, H⟩ := H
      replace H : (spec_l20Kept.j1 k1 x7_1 t287 s0_0 t288) = some (r1, r2) := H
      have A18 := Aside0.mk A180
      clear A180
      have H' := Aside0.mk H
      clear H
      obtain ⟨Ao19, co19, eo19, _⟩ := Kd.Q_slice HO_7.out
      subst eo19
      go_wp2_with (first | (go_at_call 78; (with_reducible refine (spec_l20Rd_odd.calls k1 g s0_0 x1001_1 a2 t287 t288 w0 _ ?side1 ?side2 A18.out).mono ?_); (case side1 => exact z_31); (case side2 => exact z_33); rintro e w20 ⟨rfl, hi, hb, hk⟩; have n0_ := Aside0.mk (Kd.Q_mono (Kd.Q_keep (IsS96.apartQ (show IsS96 w0 _ g s0_0 x1001_1 from z_31) (z_82) (z_3)) hk (fun _ h => h.2)) (fun _ h => h.1)); have n1_ := Aside0.mk (KeepBut.trans (z_32) hk (.inl rfl)); have n2_ := Aside0.mk (hb); have n3_ := Aside0.mk (hi); clear HO_7; clear HK; clear HB; clear HI0; have HO_7 := n0_; have HK := n1_; have HB := n2_; have HI0 := n3_; clear n0_ n1_ n2_ n3_; (try clear hb); (try clear hb2); (try clear hk); (try clear hi)))
      go_meet
      case rel => exact ⟨_, (t287), (t288), (z_1), H', ⟨z_20⟩, ⟨z_82⟩, ⟨z_31⟩, ⟨z_32⟩, ⟨z_33⟩⟩
     ·rw [if_neg c17] at H
      have c17b0 : decide (0 < (x7_1.length : Int)) = false := decide_eq_false c17
      have c17b1 : decide (0 < x7_1.length) = false := decide_eq_false (z_4)
      clear c17
      (first | rw [c17b0] | (simp only [i64_w, i32_w]; rw [c17b0]) | skip)
      have H' := Aside0.mk H
      clear H
      obtain ⟨Ao21, co21, eo21, _⟩ := Kd.Q_slice HO_7.out
      subst eo21
      go_wp2
      go_meet
      case rel => exact ⟨_, (false), (x1001_1), (z_1), H', ⟨z_20⟩, ⟨z_82⟩, ⟨z_31⟩, ⟨z_32⟩, ⟨z_33⟩⟩
    case rest =>
     clear HC16
     try clear c1
     try clear p2
     try clear c4
     try clear c6
     try clear p6
     try clear c7
     try clear c8
     try clear c8b0
     try clear c17
     try clear c17b0
     try clear c17b1
     try clear p2
     obtain ⟨kq, x34_15, x1001_15, rfl, HA, HJ15, HO_7, HI0, HK, HB⟩ := hcut
     cases kq with
     | zero => exact absurd HA.out (by simp [spec_l20Kept.j1])
     | succ kj15 =>
      have H := HA.out
      clear HA
      simp only [spec_l20Kept.j1] at H
      by_cases c22 : x34_15 = true
      ·subst c22
       rw [if_pos rfl] at H
       replace H := Option.bind_eq_some_iff.mp H
       obtain ⟨⟨t289, t290⟩, A230, H⟩ := H
       replace H : (if t289 = 0 then (if 0 < (x7_1.length : Int) then (if x7_1.length < 2199023255552 then (some ((x7_1 ++ [(⟨(⟨(rd_T83 x7_1 0).f0.f0, (rd_T83 x7_1 0).f0.f1, (rd_T83 x7_1 0).f0.f2, (rd_T83 x7_1 0).f0.f3, (rd_T83 x7_1 0).f0.f4⟩ : S26), (rd_T83 x7_1 0).f1⟩ : S83)]), t290)) else (none)) else (none)) else (if t289 = 1 then (if 0 < (x7_1.length : Int) then (some ((x7_1.set (0 : Int).toNat (⟨(⟨(rd_T83 x7_1 0).f0.f0, (rd_T83 x7_1 0).f0.f1, (rd_T83 x7_1 0).f0.f2, (rd_T83 x7_1 0).f0.f3, (rd_T83 x7_1 0).f0.f4⟩ : S26), (-1)⟩ : S83)), t290)) else (none)) else (if 0 < (x7_1.length : Int) then (some ((x7_1.set (0 : Int).toNat (⟨(⟨(⟨#[]⟩ : ByteArray), (rd_T83 x7_1 0).f0.f1, (rd_T83 x7_1 0).f0.f2, (rd_T83 x7_1 0).f0.f3, (rd_T83 x7_1 0).f0.f4⟩ : S26), (rd_T83 x7_1 0).f1⟩ : S83)), t290)) else (none)))) = some (r1, r2) := H
       have A23 := Aside0.mk A230
       clear A230
       by_cases c24 : t289 = 0
       ·rw [if_pos c24] at H
        have c24b0 : (t289 == 0) = true := beq_iff_eq.mpr c24
        have c24b1 : (t289 != 0) = false := bne_eq_false_iff_eq.mpr c24
        clear c24
        by_cases c25 : 0 < (x7_1.length : Int)
        ·rw [if_pos c25] at H
         have c25b0 : decide (0 < (x7_1.length : Int)) = true := decide_eq_true c25
         have c25b1 : decide (0 < x7_1.length) = true := decide_eq_true (z_4)
         clear c25
         by_cases c26 : x7_1.length < 2199023255552
         ·rw [if_pos c26] at H
          have LMc26 := Aside0.mk c26
          clear c26
          obtain ⟨y292, hy292⟩ : ∃ y_ : List (S83), y_ = (x7_1 ++ [(⟨(⟨(rd_T83 x7_1 0).f0.f0, (rd_T83 x7_1 0).f0.f1, (rd_T83 x7_1 0).f0.f2, (rd_T83 x7_1 0).f0.f3, (rd_T83 x7_1 0).f0.f4⟩ : S26), (rd_T83 x7_1 0).f1⟩ : S83)]) := ⟨_, rfl⟩
          replace H : (some (y292, t290)) = some (r1, r2) := by first | (rw [hy292]; with_reducible exact H) | (have H2_ := (Option.bind_some _ _).symm.trans H; rw [hy292]; with_reducible exact H2_) | (have H2_ := (Option.bind_some _ _).symm.trans H; with_reducible exact H2_) | with_reducible exact H | (rw [hy292]; exact H) | exact H
          have Ny292 := Aside0.mk hy292
          clear hy292
          simp only [Option.some.injEq, Prod.mk.injEq] at H
          obtain ⟨rfl, rfl⟩ := H
          go_wp2_with (first | ((with_reducible refine gate_callee (f := 69) rfl ?_); refine goesL_ (some 36) rfl rfl Try.func69 (z_0) rfl #[.pointer (some ⟨g, 0, none⟩), .int .i64 3] rfl (z_12) ?_; (with_reducible refine (spec_l20Rd_pick.calls kj15 g s0_0 x1001_15 3 t289 t290 w0 _ ?side1 ?side2 A23.out).mono ?_); (case side1 => exact z_31); (case side2 => exact z_33); rintro e w27 ⟨rfl, hi, hb, hk⟩; refine ⟨_, rfl, ?_⟩; have n0_ := Aside0.mk (Kd.Q_mono (Kd.Q_keep (IsS96.apartQ (show IsS96 w0 _ g s0_0 x1001_15 from z_31) (z_82) (z_3)) hk (fun _ h => h.2)) (fun _ h => h.1)); have n1_ := Aside0.mk (KeepBut.trans (z_32) hk (.inl rfl)); have n2_ := Aside0.mk (hb); have n3_ := Aside0.mk (hi); clear HO_7; clear HK; clear HB; clear HI0; have HO_7 := n0_; have HK := n1_; have HB := n2_; have HI0 := n3_; clear n0_ n1_ n2_ n3_; (try clear hb); (try clear hb2); (try clear hk); (try clear hi); obtain ⟨Ao28, co28, eo28, _⟩ := Kd.Q_slice HO_7.out; subst eo28; have p291 : 0 ≤ (0 : Int) := (z_4); have q291 : 0 < (x7_1.length : Int) := of_decide_eq_true (z_5); obtain ⟨ad291, e291, hx291_0, hx291_1, hx291_2, hx291_3, hx291_4, hx291_5⟩ := at_T83 (Kd.Q_reads' HO_7.out).2.2 0 p291 q291; cases e291; have qi291 : (0 < x7_1.length) = True := eq_true (z_4); (try rw [show ((0 : Int)).toNat = 0 from rfl] at hx291_0); (try rw [show 0 * 6 = 0 from rfl] at hx291_0); (try rw [Addr.add_zero'] at hx291_0); (try rw [show ((0 : Int)).toNat = 0 from rfl] at hx291_1); (try rw [show 0 * 6 = 0 from rfl] at hx291_1); (try rw [Addr.add_zero'] at hx291_1); (try rw [show ((0 : Int)).toNat = 0 from rfl] at hx291_2); (try rw [show 0 * 6 = 0 from rfl] at hx291_2); (try rw [Addr.add_zero'] at hx291_2); (try rw [show ((0 : Int)).toNat = 0 from rfl] at hx291_3); (try rw [show 0 * 6 = 0 from rfl] at hx291_3); (try rw [Addr.add_zero'] at hx291_3); (try rw [show ((0 : Int)).toNat = 0 from rfl] at hx291_4); (try rw [show 0 * 6 = 0 from rfl] at hx291_4); (try rw [Addr.add_zero'] at hx291_4); (try rw [show ((0 : Int)).toNat = 0 from rfl] at hx291_5); (try rw [show 0 * 6 = 0 from rfl] at hx291_5); (try rw [Addr.add_zero'] at hx291_5); replace p291 := eq_true p291; replace q291 := eq_true q291) | ((with_reducible refine gate_builtin (b := .append) (xs := #[.tmp 43, .tmp 47]) rfl ?_); at_builtin; refine Kd.Q_append k83 w.heap.size rfl (.tmp 43) (.tmp 47) 48 83 (.agg #[(.string ⟨#[]⟩), (.int .i64 0), (.int .i64 0), (.string ⟨#[]⟩), (.int .i64 0), (.int .i64 0)]) 64 rfl Try.underlying48 info83 rfl (z_3) (z_4) (.slice (some ad291) x7_1.length co28) x7_1 (⟨(⟨(rd_T83 x7_1 0).f0.f0, (rd_T83 x7_1 0).f0.f1, (rd_T83 x7_1 0).f0.f2, (rd_T83 x7_1 0).f0.f3, (rd_T83 x7_1 0).f0.f4⟩ : S26), (rd_T83 x7_1 0).f1⟩ : S83) [.string ((rd_T83 x7_1 0).f0.f0), .int .i64 ((rd_T83 x7_1 0).f0.f1), .int .i64 ((rd_T83 x7_1 0).f0.f2), .string ((rd_T83 x7_1 0).f0.f3), .int .i64 ((rd_T83 x7_1 0).f0.f4), .int .i64 ((rd_T83 x7_1 0).f1)] (fun _ => True) (fun _ => False) rfl rfl ?aP (fun _ hk => hk.elim) ?aF ?aO (Below.refl _ _) ?aS ?aL ?_; (case aP => exact k83_mkM _ _ _ (⟨(⟨(rd_T83 x7_1 0).f0.f0, (rd_T83 x7_1 0).f0.f1, (rd_T83 x7_1 0).f0.f2, (rd_T83 x7_1 0).f0.f3, (rd_T83 x7_1 0).f0.f4⟩ : S26), (rd_T83 x7_1 0).f1⟩ : S83)); (case aF => exact (fun _ _ => trivial)); (case aO => exact (z_82)); (case aS => exact z_52); (case aL => have := LMc26.out; omega); intro v293 w29 ho hb hg hat; rw [← Ny292.out] at ho; have n0_ := Aside0.mk (IsS96.grown (z_31) hg (IsS96.own_neQ HI0.out HO_7.out (z_3))); have n1_ := Aside0.mk (below_weaken (z_33) HL.out hb); have n2_ := Aside0.mk (KeepBut.trans (z_32) (KeepBut.of_grown hg g) (Kd.Q_base2 HO_7.out)); have n3_ := Aside0.mk (ho); clear HI0; clear HB; clear HK; clear HO_7; have HI0 := n0_; have HB := n1_; have HK := n2_; have HO294 := n3_; clear n0_ n1_ n2_ n3_; clear ho hb hg hat))
          go_ret
          exact ⟨_, z_11, by (with_reducible repeat (first | apply Kd.Q_alloc | apply Kd.Q_drewN | apply Kd.Q_drew)); exact HO294.out, z_31, z_33, z_32⟩
         ·rw [if_neg c26] at H
          exact absurd H (z_10)
        ·rw [if_neg c25] at H
         exact absurd H (z_10)
       ·rw [if_neg c24] at H
        have c24b0 : (t289 == 0) = false := beq_eq_false_iff_ne.mpr c24
        have c24b1 : (t289 != 0) = true := bne_iff_ne.mpr c24
        by_cases c30 : t289 = 1
        ·rw [if_pos c30] at H
         have c30b0 : (t289 == 1) = true := beq_iff_eq.mpr c30
         have c30b1 : (t289 != 1) = false := bne_eq_false_iff_eq.mpr c30
         clear c30
         by_cases c31 : 0 < (x7_1.length : Int)
         ·rw [if_pos c31] at H
          have c31b0 : decide (0 < (x7_1.length : Int)) = true := decide_eq_true c31
          have c31b1 : decide (0 < x7_1.length) = true := decide_eq_true (z_4)
          clear c31
          obtain ⟨y295, hy295⟩ : ∃ y_ : List (S83), y_ = (x7_1.set (0 : Int).toNat (⟨(⟨(rd_T83 x7_1 0).f0.f0, (rd_T83 x7_1 0).f0.f1, (rd_T83 x7_1 0).f0.f2, (rd_T83 x7_1 0).f0.f3, (rd_T83 x7_1 0).f0.f4⟩ : S26), (-1)⟩ : S83)) := ⟨_, rfl⟩
          replace H : (some (y295, t290)) = some (r1, r2) := by first | (rw [hy295]; with_reducible exact H) | (have H2_ := (Option.bind_some _ _).symm.trans H; rw [hy295]; with_reducible exact H2_) | (have H2_ := (Option.bind_some _ _).symm.trans H; with_reducible exact H2_) | with_reducible exact H | (rw [hy295]; exact H) | exact H
          have Ny295 := Aside0.mk hy295
          clear hy295
          simp only [Option.some.injEq, Prod.mk.injEq] at H
          obtain ⟨rfl, rfl⟩ := H
          go_wp2_with (first | ((with_reducible refine gate_callee (f := 69) rfl ?_); refine goesL_ (some 36) rfl rfl Try.func69 (z_0) rfl #[.pointer (some ⟨g, 0, none⟩), .int .i64 3] rfl (z_12) ?_; (with_reducible refine (spec_l20Rd_pick.calls kj15 g s0_0 x1001_15 3 t289 t290 w0 _ ?side1 ?side2 A23.out).mono ?_); (case side1 => exact z_31); (case side2 => exact z_33); rintro e w33 ⟨rfl, hi, hb, hk⟩; refine ⟨_, rfl, ?_⟩; have n0_ := Aside0.mk (Kd.Q_mono (Kd.Q_keep (IsS96.apartQ (show IsS96 w0 _ g s0_0 x1001_15 from z_31) (z_82) (z_3)) hk (fun _ h => h.2)) (fun _ h => h.1)); have n1_ := Aside0.mk (KeepBut.trans (z_32) hk (.inl rfl)); have n2_ := Aside0.mk (hb); have n3_ := Aside0.mk (hi); clear HO_7; clear HK; clear HB; clear HI0; have HO_7 := n0_; have HK := n1_; have HB := n2_; have HI0 := n3_; clear n0_ n1_ n2_ n3_; (try clear hb); (try clear hb2); (try clear hk); (try clear hi); have p32 : 0 ≤ (0 : Int) := (z_4); have q32 : (0 : Int) < ((x7_1.length : Int) : Int) := of_decide_eq_true (z_5); have qi32 : (0 < x7_1.length) = True := eq_true (z_4); obtain ⟨go32, oo32, co32, eo32, gb32, gl32, cl32, HG32⟩ := Kd.Q_form HO_7.out (z_4); (first | cases eo32 | (injection eo32 with ea_ en_ ec_; (first | subst ea_ | (injection ea_ with ea_; subst ea_)); subst ec_; clear en_)); have GB32 := Aside0.mk gb32; have GG32 := Aside0.mk HG32; clear gb32 gl32 HG32; obtain ⟨ce32, hcl32, hM32, hcc32, hfr32⟩ := Kd.Q_elem HO_7.out z83 (0 : Int) p32 q32; obtain rfl := k83_openM hM32; have hx32_0 : w33.cell? ⟨go32, oo32 + (0 : Int).toNat * 6, none⟩ = some (.string ((rd_T83 x7_1 0).f0.f0)) := hcc32 0 _ rfl; have hx32_1 : w33.cell? ⟨go32, oo32 + (0 : Int).toNat * 6 + 1, none⟩ = some (.int .i64 ((rd_T83 x7_1 0).f0.f1)) := hcc32 1 _ rfl; have hx32_2 : w33.cell? ⟨go32, oo32 + (0 : Int).toNat * 6 + 2, none⟩ = some (.int .i64 ((rd_T83 x7_1 0).f0.f2)) := hcc32 2 _ rfl; have hx32_3 : w33.cell? ⟨go32, oo32 + (0 : Int).toNat * 6 + 3, none⟩ = some (.string ((rd_T83 x7_1 0).f0.f3)) := hcc32 3 _ rfl; have hx32_4 : w33.cell? ⟨go32, oo32 + (0 : Int).toNat * 6 + 4, none⟩ = some (.int .i64 ((rd_T83 x7_1 0).f0.f4)) := hcc32 4 _ rfl; have hx32_5 : w33.cell? ⟨go32, oo32 + (0 : Int).toNat * 6 + 5, none⟩ = some (.int .i64 ((rd_T83 x7_1 0).f1)) := hcc32 5 _ rfl; have hf32_0 : w33.frozen? ⟨go32, oo32 + (0 : Int).toNat * 6, none⟩ = false := hfr32 0; have hf32_1 : w33.frozen? ⟨go32, oo32 + (0 : Int).toNat * 6 + 1, none⟩ = false := hfr32 1; have hf32_2 : w33.frozen? ⟨go32, oo32 + (0 : Int).toNat * 6 + 2, none⟩ = false := hfr32 2; have hf32_3 : w33.frozen? ⟨go32, oo32 + (0 : Int).toNat * 6 + 3, none⟩ = false := hfr32 3; have hf32_4 : w33.frozen? ⟨go32, oo32 + (0 : Int).toNat * 6 + 4, none⟩ = false := hfr32 4; have hf32_5 : w33.frozen? ⟨go32, oo32 + (0 : Int).toNat * 6 + 5, none⟩ = false := hfr32 5; clear hcl32 hcc32 hfr32 hM32; (try rw [show ((0 : Int)).toNat = 0 from rfl] at hx32_0); (try simp only [Nat.reduceMul, Nat.zero_mul, Nat.zero_add, Nat.reduceAdd] at hx32_0); (try rw [show ((0 : Int)).toNat = 0 from rfl] at hf32_0); (try simp only [Nat.reduceMul, Nat.zero_mul, Nat.zero_add, Nat.reduceAdd] at hf32_0); (try rw [show ((0 : Int)).toNat = 0 from rfl] at hx32_1); (try simp only [Nat.reduceMul, Nat.zero_mul, Nat.zero_add, Nat.reduceAdd] at hx32_1); (try rw [show ((0 : Int)).toNat = 0 from rfl] at hf32_1); (try simp only [Nat.reduceMul, Nat.zero_mul, Nat.zero_add, Nat.reduceAdd] at hf32_1); (try rw [show ((0 : Int)).toNat = 0 from rfl] at hx32_2); (try simp only [Nat.reduceMul, Nat.zero_mul, Nat.zero_add, Nat.reduceAdd] at hx32_2); (try rw [show ((0 : Int)).toNat = 0 from rfl] at hf32_2); (try simp only [Nat.reduceMul, Nat.zero_mul, Nat.zero_add, Nat.reduceAdd] at hf32_2); (try rw [show ((0 : Int)).toNat = 0 from rfl] at hx32_3); (try simp only [Nat.reduceMul, Nat.zero_mul, Nat.zero_add, Nat.reduceAdd] at hx32_3); (try rw [show ((0 : Int)).toNat = 0 from rfl] at hf32_3); (try simp only [Nat.reduceMul, Nat.zero_mul, Nat.zero_add, Nat.reduceAdd] at hf32_3); (try rw [show ((0 : Int)).toNat = 0 from rfl] at hx32_4); (try simp only [Nat.reduceMul, Nat.zero_mul, Nat.zero_add, Nat.reduceAdd] at hx32_4); (try rw [show ((0 : Int)).toNat = 0 from rfl] at hf32_4); (try simp only [Nat.reduceMul, Nat.zero_mul, Nat.zero_add, Nat.reduceAdd] at hf32_4); (try rw [show ((0 : Int)).toNat = 0 from rfl] at hx32_5); (try simp only [Nat.reduceMul, Nat.zero_mul, Nat.zero_add, Nat.reduceAdd] at hx32_5); (try rw [show ((0 : Int)).toNat = 0 from rfl] at hf32_5); (try simp only [Nat.reduceMul, Nat.zero_mul, Nat.zero_add, Nat.reduceAdd] at hf32_5); replace p32 := eq_true p32; replace q32 := eq_true q32; have HX34 := Aside0.mk (show Kd.Q k83 83 w33 w.heap.size (fun _ => True) (.slice (some ⟨go32, oo32, none⟩) x7_1.length co32) x7_1 from (z_82)); obtain ⟨ce34, hcl34, hM34, hcc34, hfr34⟩ := Kd.Q_elem HX34.out z83 (0 : Int) (z_4) (z_83); obtain rfl := k83_openM hM34; have HP34 := Kd.Q_seg HX34.out (0 : Int) (z_4) (z_83) (seg := [.int .i64 (-1)]) (j := 5) hcl34 hcc34 (show 6 ≤ 6 from z_3) (x' := (⟨(⟨(rd_T83 x7_1 0).f0.f0, (rd_T83 x7_1 0).f0.f1, (rd_T83 x7_1 0).f0.f2, (rd_T83 x7_1 0).f0.f3, (rd_T83 x7_1 0).f0.f4⟩ : S26), (-1)⟩ : S83)) (k83_mkM _ _ _ (⟨(⟨(rd_T83 x7_1 0).f0.f0, (rd_T83 x7_1 0).f0.f1, (rd_T83 x7_1 0).f0.f2, (rd_T83 x7_1 0).f0.f3, (rd_T83 x7_1 0).f0.f4⟩ : S26), (-1)⟩ : S83) ) (fun _ hk => hk); have hx34_5 := hcc34 5 _ rfl; (try simp only [show (k83).sz = 6 from rfl, Nat.mul_one, Nat.add_zero] at hx34_5); (try rw [show ((0 : Int)).toNat = 0 from rfl] at hx34_5); (try simp only [Nat.reduceMul, Nat.zero_mul, Nat.zero_add, Nat.reduceAdd] at hx34_5); have hf34_5 := hfr34 5; (try simp only [show (k83).sz = 6 from rfl, Nat.mul_one, Nat.add_zero] at hf34_5); (try rw [show ((0 : Int)).toNat = 0 from rfl] at hf34_5); (try simp only [Nat.reduceMul, Nat.zero_mul, Nat.zero_add, Nat.reduceAdd] at hf34_5); clear hcl34 hcc34 hfr34 hM34) | ((with_reducible refine gate_store (t := 3) (p := 53) rfl ?_); refine store_event (t := 3) (p := 53) (v := ?vo_w35) (w1 := (w33.setCell ⟨go32, oo32 + 5, none⟩ (.int .i64 (-1)))) ?hg ?ho ?hn ?hr ?_; (case ho => rfl); (case hg => rfl); (case hn => rfl); (case hr => exact z_7); intro w35 hw; have hg : w33.grownBy w35 (some go32) := (by rw [hw]; exact HP34.2); have hp_ : Kd.Q k83 83 w35 w.heap.size (fun _ => True) (.slice (some ⟨go32, oo32, none⟩) x7_1.length co32) y295 := (by rw [hw, Ny295.out]; exact HP34.1); clear HP34; have n0_ := Aside0.mk (hp_); have n1_ := Aside0.mk (IsS96.grown (z_31) hg (IsS96.own_neQ HI0.out HO_7.out (z_3))); have n2_ := Aside0.mk ((by rw [hw]; exact below_set (HB.out) (Nat.le_trans HL.out GB32.out) : Below w0.heap.size w0 w35)); have n3_ := Aside0.mk (KeepBut.trans (z_32) (KeepBut.of_grown hg g) (Kd.Q_base2 HO_7.out)); clear HO_7; clear HI0; clear HB; clear HK; have HO_7 := n0_; have HI0 := n1_; have HB := n2_; have HK := n3_; clear n0_ n1_ n2_ n3_; clear hg hw hp_))
          go_ret
          exact ⟨_, z_11, z_82, z_31, z_33, z_32⟩
         ·rw [if_neg c31] at H
          exact absurd H (z_10)
        ·rw [if_neg c30] at H
         have c30b0 : (t289 == 1) = false := beq_eq_false_iff_ne.mpr c30
         have c30b1 : (t289 != 1) = true := bne_iff_ne.mpr c30
         by_cases c36 : 0 < (x7_1.length : Int)
         ·rw [if_pos c36] at H
          have c36b0 : decide (0 < (x7_1.length : Int)) = true := decide_eq_true c36
          have c36b1 : decide (0 < x7_1.length) = true := decide_eq_true (z_4)
          clear c36
          obtain ⟨y296, hy296⟩ : ∃ y_ : List (S83), y_ = (x7_1.set (0 : Int).toNat (⟨(⟨(⟨#[]⟩ : ByteArray), (rd_T83 x7_1 0).f0.f1, (rd_T83 x7_1 0).f0.f2, (rd_T83 x7_1 0).f0.f3, (rd_T83 x7_1 0).f0.f4⟩ : S26), (rd_T83 x7_1 0).f1⟩ : S83)) := ⟨_, rfl⟩
          replace H : (some (y296, t290)) = some (r1, r2) := by first | (rw [hy296]; with_reducible exact H) | (have H2_ := (Option.bind_some _ _).symm.trans H; rw [hy296]; with_reducible exact H2_) | (have H2_ := (Option.bind_some _ _).symm.trans H; with_reducible exact H2_) | with_reducible exact H | (rw [hy296]; exact H) | exact H
          have Ny296 := Aside0.mk hy296
          clear hy296
          simp only [Option.some.injEq, Prod.mk.injEq] at H
          obtain ⟨rfl, rfl⟩ := H
          go_wp2_with (first | ((with_reducible refine gate_callee (f := 69) rfl ?_); refine goesL_ (some 36) rfl rfl Try.func69 (z_0) rfl #[.pointer (some ⟨g, 0, none⟩), .int .i64 3] rfl (z_12) ?_; (with_reducible refine (spec_l20Rd_pick.calls kj15 g s0_0 x1001_15 3 t289 t290 w0 _ ?side1 ?side2 A23.out).mono ?_); (case side1 => exact z_31); (case side2 => exact z_33); rintro e w38 ⟨rfl, hi, hb, hk⟩; refine ⟨_, rfl, ?_⟩; have n0_ := Aside0.mk (Kd.Q_mono (Kd.Q_keep (IsS96.apartQ (show IsS96 w0 _ g s0_0 x1001_15 from z_31) (z_82) (z_3)) hk (fun _ h => h.2)) (fun _ h => h.1)); have n1_ := Aside0.mk (KeepBut.trans (z_32) hk (.inl rfl)); have n2_ := Aside0.mk (hb); have n3_ := Aside0.mk (hi); clear HO_7; clear HK; clear HB; clear HI0; have HO_7 := n0_; have HK := n1_; have HB := n2_; have HI0 := n3_; clear n0_ n1_ n2_ n3_; (try clear hb); (try clear hb2); (try clear hk); (try clear hi); have p37 : 0 ≤ (0 : Int) := (z_4); have q37 : (0 : Int) < ((x7_1.length : Int) : Int) := of_decide_eq_true (z_5); have qi37 : (0 < x7_1.length) = True := eq_true (z_4); obtain ⟨go37, oo37, co37, eo37, gb37, gl37, cl37, HG37⟩ := Kd.Q_form HO_7.out (z_4); (first | cases eo37 | (injection eo37 with ea_ en_ ec_; (first | subst ea_ | (injection ea_ with ea_; subst ea_)); subst ec_; clear en_)); have GB37 := Aside0.mk gb37; have GG37 := Aside0.mk HG37; clear gb37 gl37 HG37; obtain ⟨ce37, hcl37, hM37, hcc37, hfr37⟩ := Kd.Q_elem HO_7.out z83 (0 : Int) p37 q37; obtain rfl := k83_openM hM37; have hx37_0 : w38.cell? ⟨go37, oo37 + (0 : Int).toNat * 6, none⟩ = some (.string ((rd_T83 x7_1 0).f0.f0)) := hcc37 0 _ rfl; have hx37_1 : w38.cell? ⟨go37, oo37 + (0 : Int).toNat * 6 + 1, none⟩ = some (.int .i64 ((rd_T83 x7_1 0).f0.f1)) := hcc37 1 _ rfl; have hx37_2 : w38.cell? ⟨go37, oo37 + (0 : Int).toNat * 6 + 2, none⟩ = some (.int .i64 ((rd_T83 x7_1 0).f0.f2)) := hcc37 2 _ rfl; have hx37_3 : w38.cell? ⟨go37, oo37 + (0 : Int).toNat * 6 + 3, none⟩ = some (.string ((rd_T83 x7_1 0).f0.f3)) := hcc37 3 _ rfl; have hx37_4 : w38.cell? ⟨go37, oo37 + (0 : Int).toNat * 6 + 4, none⟩ = some (.int .i64 ((rd_T83 x7_1 0).f0.f4)) := hcc37 4 _ rfl; have hx37_5 : w38.cell? ⟨go37, oo37 + (0 : Int).toNat * 6 + 5, none⟩ = some (.int .i64 ((rd_T83 x7_1 0).f1)) := hcc37 5 _ rfl; have hf37_0 : w38.frozen? ⟨go37, oo37 + (0 : Int).toNat * 6, none⟩ = false := hfr37 0; have hf37_1 : w38.frozen? ⟨go37, oo37 + (0 : Int).toNat * 6 + 1, none⟩ = false := hfr37 1; have hf37_2 : w38.frozen? ⟨go37, oo37 + (0 : Int).toNat * 6 + 2, none⟩ = false := hfr37 2; have hf37_3 : w38.frozen? ⟨go37, oo37 + (0 : Int).toNat * 6 + 3, none⟩ = false := hfr37 3; have hf37_4 : w38.frozen? ⟨go37, oo37 + (0 : Int).toNat * 6 + 4, none⟩ = false := hfr37 4; have hf37_5 : w38.frozen? ⟨go37, oo37 + (0 : Int).toNat * 6 + 5, none⟩ = false := hfr37 5; clear hcl37 hcc37 hfr37 hM37; (try rw [show ((0 : Int)).toNat = 0 from rfl] at hx37_0); (try simp only [Nat.reduceMul, Nat.zero_mul, Nat.zero_add, Nat.reduceAdd] at hx37_0); (try rw [show ((0 : Int)).toNat = 0 from rfl] at hf37_0); (try simp only [Nat.reduceMul, Nat.zero_mul, Nat.zero_add, Nat.reduceAdd] at hf37_0); (try rw [show ((0 : Int)).toNat = 0 from rfl] at hx37_1); (try simp only [Nat.reduceMul, Nat.zero_mul, Nat.zero_add, Nat.reduceAdd] at hx37_1); (try rw [show ((0 : Int)).toNat = 0 from rfl] at hf37_1); (try simp only [Nat.reduceMul, Nat.zero_mul, Nat.zero_add, Nat.reduceAdd] at hf37_1); (try rw [show ((0 : Int)).toNat = 0 from rfl] at hx37_2); (try simp only [Nat.reduceMul, Nat.zero_mul, Nat.zero_add, Nat.reduceAdd] at hx37_2); (try rw [show ((0 : Int)).toNat = 0 from rfl] at hf37_2); (try simp only [Nat.reduceMul, Nat.zero_mul, Nat.zero_add, Nat.reduceAdd] at hf37_2); (try rw [show ((0 : Int)).toNat = 0 from rfl] at hx37_3); (try simp only [Nat.reduceMul, Nat.zero_mul, Nat.zero_add, Nat.reduceAdd] at hx37_3); (try rw [show ((0 : Int)).toNat = 0 from rfl] at hf37_3); (try simp only [Nat.reduceMul, Nat.zero_mul, Nat.zero_add, Nat.reduceAdd] at hf37_3); (try rw [show ((0 : Int)).toNat = 0 from rfl] at hx37_4); (try simp only [Nat.reduceMul, Nat.zero_mul, Nat.zero_add, Nat.reduceAdd] at hx37_4); (try rw [show ((0 : Int)).toNat = 0 from rfl] at hf37_4); (try simp only [Nat.reduceMul, Nat.zero_mul, Nat.zero_add, Nat.reduceAdd] at hf37_4); (try rw [show ((0 : Int)).toNat = 0 from rfl] at hx37_5); (try simp only [Nat.reduceMul, Nat.zero_mul, Nat.zero_add, Nat.reduceAdd] at hx37_5); (try rw [show ((0 : Int)).toNat = 0 from rfl] at hf37_5); (try simp only [Nat.reduceMul, Nat.zero_mul, Nat.zero_add, Nat.reduceAdd] at hf37_5); replace p37 := eq_true p37; replace q37 := eq_true q37; have HX39 := Aside0.mk (show Kd.Q k83 83 w38 w.heap.size (fun _ => True) (.slice (some ⟨go37, oo37, none⟩) x7_1.length co37) x7_1 from (z_82)); obtain ⟨ce39, hcl39, hM39, hcc39, hfr39⟩ := Kd.Q_elem HX39.out z83 (0 : Int) (z_4) (z_83); obtain rfl := k83_openM hM39; have HP39 := Kd.Q_seg HX39.out (0 : Int) (z_4) (z_83) (seg := [.string (⟨#[]⟩ : ByteArray)]) (j := 0) hcl39 hcc39 (show 1 ≤ 6 from z_3) (x' := (⟨(⟨(⟨#[]⟩ : ByteArray), (rd_T83 x7_1 0).f0.f1, (rd_T83 x7_1 0).f0.f2, (rd_T83 x7_1 0).f0.f3, (rd_T83 x7_1 0).f0.f4⟩ : S26), (rd_T83 x7_1 0).f1⟩ : S83)) (k83_mkM _ _ _ (⟨(⟨(⟨#[]⟩ : ByteArray), (rd_T83 x7_1 0).f0.f1, (rd_T83 x7_1 0).f0.f2, (rd_T83 x7_1 0).f0.f3, (rd_T83 x7_1 0).f0.f4⟩ : S26), (rd_T83 x7_1 0).f1⟩ : S83) ) (fun _ hk => hk); have hx39_0 := hcc39 0 _ rfl; (try simp only [show (k83).sz = 6 from rfl, Nat.mul_one, Nat.add_zero] at hx39_0); (try rw [show ((0 : Int)).toNat = 0 from rfl] at hx39_0); (try simp only [Nat.reduceMul, Nat.zero_mul, Nat.zero_add, Nat.reduceAdd] at hx39_0); have hf39_0 := hfr39 0; (try simp only [show (k83).sz = 6 from rfl, Nat.mul_one, Nat.add_zero] at hf39_0); (try rw [show ((0 : Int)).toNat = 0 from rfl] at hf39_0); (try simp only [Nat.reduceMul, Nat.zero_mul, Nat.zero_add, Nat.reduceAdd] at hf39_0); clear hcl39 hcc39 hfr39 hM39; (try simp only [Nat.add_zero] at hx39_0 hf39_0)) | ((with_reducible refine gate_store (t := 9) (p := 40) rfl ?_); refine store_event (t := 9) (p := 40) (v := ?vo_w40) (w1 := (w38.setCell ⟨go37, oo37, none⟩ (.string (⟨#[]⟩ : ByteArray)))) ?hg ?ho ?hn ?hr ?_; (case ho => rfl); (case hg => rfl); (case hn => rfl); (case hr => exact z_7); intro w40 hw; have hg : w38.grownBy w40 (some go37) := (by rw [hw]; exact HP39.2); have hp_ : Kd.Q k83 83 w40 w.heap.size (fun _ => True) (.slice (some ⟨go37, oo37, none⟩) x7_1.length co37) y296 := (by rw [hw, Ny296.out]; exact HP39.1); clear HP39; have n0_ := Aside0.mk (hp_); have n1_ := Aside0.mk (IsS96.grown (z_31) hg (IsS96.own_neQ HI0.out HO_7.out (z_3))); have n2_ := Aside0.mk ((by rw [hw]; exact below_set (HB.out) (Nat.le_trans HL.out GB37.out) : Below w0.heap.size w0 w40)); have n3_ := Aside0.mk (KeepBut.trans (z_32) (KeepBut.of_grown hg g) (Kd.Q_base2 HO_7.out)); clear HO_7; clear HI0; clear HB; clear HK; have HO_7 := n0_; have HI0 := n1_; have HB := n2_; have HK := n3_; clear n0_ n1_ n2_ n3_; clear hg hw hp_))
          go_ret
          exact ⟨_, z_11, z_82, z_31, z_33, z_32⟩
         ·rw [if_neg c36] at H
          exact absurd H (z_10)
      ·replace c22 := Bool.eq_false_iff.mpr c22
       subst c22
       rw [if_neg (show ¬ (false = true) by decide)] at H
       simp only [Option.some.injEq, Prod.mk.injEq] at H
       obtain ⟨rfl, rfl⟩ := H
       go_wp2
       go_ret
       exact ⟨_, z_11, z_82, z_31, z_33, z_32⟩

/-! ### spec_DrawKeptOk: function 42 -/
def spec_DrawKeptOk.f (k : Nat) (l0 : List Int) : Option ((List (S83))) := (spec_l20Open.f l0).bind fun bt297 => ((spec_l20Names.f k bt297.1 bt297.2 0).bind fun bt300 => ((spec_l20Kept.f k bt297.1 bt300.2 bt300.1 2).bind fun bt304 => (some bt304.1)))
theorem spec_DrawKeptOk.mono : ∀ a0 k, LeO (spec_DrawKeptOk.f k a0) (spec_DrawKeptOk.f (k + 1) a0) := by
 intro a0 k
 unfold spec_DrawKeptOk.f
 repeat' first
   | (with_reducible exact spec_l20Kept.mono _ _ _ _ _)
   | (with_reducible exact spec_l20Names.mono _ _ _ _)
   | (with_reducible exact LeO.refl _)
   | (with_reducible exact LeO.none _)
   | (with_reducible refine LeO.ite ?_ ?_)
   | (with_reducible refine LeO.bind ?_ (fun _ => ?_))
   | exact spec_l20Kept.mono _ _ _ _ _
   | exact spec_l20Names.mono _ _ _ _
   | exact LeO.none _
   | refine LeO.ite ?_ ?_
   | refine LeO.bind ?_ (fun _ => ?_)
set_option maxHeartbeats 8000000 in
set_option maxRecDepth 100000 in
theorem spec_DrawKeptOk.calls (k : Nat) (A0 : Option Addr) (c0 : Nat) (l0 : List Int) (r : List (S83)) (w : World) (hr0 : Kd.C (Kd.int .u8) w A0 l0.length l0) (hc0 : l0.length ≤ c0) (h : spec_DrawKeptOk.f k l0 = some r) :
  Calls Try.prog 42 #[.slice A0 l0.length c0] w fun e w' => ∃ v0_ : Value, e = .returned (v0_) ∧ Kd.Q k83 83 w' w.heap.size (fun _ => True) v0_ r ∧ Below w.heap.size w w' := by
 have HR0 := Aside0.mk hr0
 have HC0 := Aside0.mk hc0
 clear hr0 hc0
 have HB := Aside0.mk (Below.refl w.heap.size w)
 have H : ((spec_l20Open.f l0).bind fun bt297 => ((spec_l20Names.f k bt297.1 bt297.2 0).bind fun bt300 => ((spec_l20Kept.f k bt297.1 bt300.2 bt300.1 2).bind fun bt304 => (some bt304.1)))) = some r := h
 clear h
 replace H := Option.bind_eq_some_iff.mp H
 obtain ⟨⟨t297, t298⟩, A20, H⟩ := H
 replace H : ((spec_l20Names.f k t297 t298 0).bind fun bt300 => ((spec_l20Kept.f k t297 bt300.2 bt300.1 2).bind fun bt304 => (some bt304.1))) = some r := H
 have A2 := Aside0.mk A20
 clear A20
 replace H := Option.bind_eq_some_iff.mp H
 obtain ⟨⟨t300, t303⟩, A30, H⟩ := H
 replace H : ((spec_l20Kept.f k t297 t303 t300 2).bind fun bt304 => (some bt304.1)) = some r := H
 have A3 := Aside0.mk A30
 clear A30
 replace H := Option.bind_eq_some_iff.mp H
 obtain ⟨⟨t304, t307⟩, A40, H⟩ := H
 replace H : (some t304) = some r := H
 have A4 := Aside0.mk A40
 clear A40
 obtain rfl := Option.some.inj H
 go_enter Try.func42, Try.ntmps42
 go_wp2_with (first | ((with_reducible refine gate_callee (f := 60) rfl ?_); refine goesL_ (some 5) rfl rfl Try.func60 (z_0) rfl #[.slice A0 l0.length c0] rfl (z_12) ?_; (with_reducible refine (spec_l20Open.calls _ _ l0 t297 t298 w _ ?side1 ?side2 ?side3 A2.out).mono ?_); (case side1 => exact z_6); (case side2 => exact HR0.out); (case side3 => exact HC0.out); rintro e w5 ⟨g299, rfl, hi, hb, hb2⟩; refine ⟨_, rfl, ?_⟩; have n0_ := Aside0.mk (hb); have n1_ := Aside0.mk (hi); clear HB; have HB := n0_; have HI299 := n1_; clear n0_ n1_; (try clear hb); (try clear hb2); (try clear hk); (try clear hi)) | ((with_reducible refine gate_callee (f := 62) rfl ?_); refine goesL_ (some 8) rfl rfl Try.func62 (z_0) rfl #[.pointer (some ⟨g299, 0, none⟩), .int .i64 0] rfl (z_12) ?_; (with_reducible refine (spec_l20Names.calls k g299 t297 t298 0 t300 t303 w _ ?side1 ?side2 A3.out).mono ?_); (case side1 => exact z_84); (case side2 => exact z_85); rintro e w6 ⟨v301, rfl, ho0, hi, hb, hk⟩; refine ⟨_, rfl, ?_⟩; have n0_ := Aside0.mk (Kd.R_lower ho0 (below_size (z_85))); have n1_ := Aside0.mk (hb); have n2_ := Aside0.mk (hi); clear HB; clear HI299; have HO302 := n0_; have HB := n1_; have HI299 := n2_; clear n0_ n1_ n2_; (try clear hb); (try clear hb2); (try clear hk); (try clear hi); (try clear ho0); obtain ⟨Ao7, co7, eo7⟩ := Kd.R_slice HO302.out; subst eo7) | ((with_reducible refine gate_callee (f := 72) rfl ?_); refine goesL_ (some 9) rfl rfl Try.func72 (z_0) rfl #[.pointer (some ⟨g299, 0, none⟩), .slice Ao7 t300.length co7, .int .i64 2] rfl (z_12) ?_; (with_reducible refine (spec_l20Kept.calls k g299 t297 t303 _ _ t300 2 t304 t307 w _ ?side1 ?side2 ?side3 ?side4 A4.out).mono ?_); (case side1 => exact z_84); (case side2 => exact z_85); (case side3 => exact Kd.C_foot_own (IsS96.apart (show IsS96 w _ g299 t297 t303 from z_84) (z_86) (z_3)) (fun _ h_ => h_.2)); (case side4 => exact (Kd.R_reads' HO302.out).2.1); rintro e w8 ⟨v305, rfl, ho0, hi, hb, hk⟩; refine ⟨_, rfl, ?_⟩; have n0_ := Aside0.mk (Kd.R_mono (Kd.R_keep (IsS96.apart (show IsS96 w _ g299 t297 t303 from z_84) (z_86) (z_3)) hk (fun _ h => h.2)) (fun _ h => h.1)); have n1_ := Aside0.mk (Kd.Q_lower ho0 (below_size (z_85))); have n2_ := Aside0.mk (hb); have n3_ := Aside0.mk (hi); clear HO302; clear HB; clear HI299; have HO302 := n0_; have HO306 := n1_; have HB := n2_; have HI299 := n3_; clear n0_ n1_ n2_ n3_; (try clear hb); (try clear hb2); (try clear hk); (try clear hi); (try clear ho0)))
 go_ret
 exact ⟨_, z_11, by (with_reducible repeat (first | apply Kd.Q_alloc | apply Kd.Q_drewN | apply Kd.Q_drew)); exact HO306.out, z_85⟩

/-! ### laws_FnKeptOk: function 12 -/
mutual
def laws_FnKeptOk.l0 : Nat → List (S83) → Bool → Int → Option (Bool)
 | 0, _, _, _ => none
 | k + 1, x3, x4, x5 => if x5 < (x3.length : Int) then (laws_FnKeptOk.j1 k x3 x4 x5 x4) else (laws_FnKeptOk.j1 k x3 x4 x5 false)
def laws_FnKeptOk.j1 : Nat → List (S83) → Bool → Int → Bool → Option (Bool)
 | 0, _, _, _, _ => none
 | k + 1, x3, x4, x5, x23 => if x23 = true then ((some (([] : List (S83)) : List (S83))).bind fun y313 => (if 0 ≤ x5 then (if x5 ≤ (x3.length : Int) then ((some (x3.take (x5 : Int).toNat : List (S83))).bind fun y316 => (if y313.length + y316.length < 2199023255552 then ((impl_KeptOk.f k (y313 ++ y316)).bind fun t323 => (if t323 = true then (laws_FnKeptOk.l0 k x3 x4 (wrap64 (x5 + 1))) else (some false))) else (none))) else (none)) else (none))) else ((impl_KeptOk.f k (([] : List (S83)))).bind fun t327 => (if t327 = true then ((laws_alive.f k).bind fun t328 => (some t328)) else (some false)))
end
def laws_FnKeptOk.f (k : Nat) (l0 : List Int) : Option (Bool) := if (l0.length : Int) > 1048576 then (some true) else ((spec_DrawKeptOk.f k l0).bind fun t308 => ((impl_KeptOk.f k t308).bind fun t311 => ((spec_KeptOk.f k t308).bind fun t312 => (if (t311 != t312) = true then (some false) else (laws_FnKeptOk.l0 k t308 t311 0)))))
theorem laws_FnKeptOk.mono_l : ∀ k, (∀ y0 y1 y2, LeO (laws_FnKeptOk.l0 k y0 y1 y2) (laws_FnKeptOk.l0 (k + 1) y0 y1 y2)) ∧ (∀ y0 y1 y2 y3, LeO (laws_FnKeptOk.j1 k y0 y1 y2 y3) (laws_FnKeptOk.j1 (k + 1) y0 y1 y2 y3))
 | 0 => ⟨fun _ _ _ r h => by simp [laws_FnKeptOk.l0] at h, fun _ _ _ _ r h => by simp [laws_FnKeptOk.j1] at h⟩
 | k + 1 => by
  obtain ⟨ih0, ih1⟩ := laws_FnKeptOk.mono_l k
  refine ⟨?_, ?_⟩
  ·intro y0 y1 y2
   unfold laws_FnKeptOk.l0
   repeat' first
   | (with_reducible exact ih0 _ _ _)
   | (with_reducible exact ih1 _ _ _ _)
   | (with_reducible exact impl_KeptOk.mono _ _)
   | (with_reducible exact laws_alive.mono _)
   | (with_reducible exact spec_DrawKeptOk.mono _ _)
   | (with_reducible exact spec_KeptOk.mono _ _)
   | (with_reducible exact LeO.refl _)
   | (with_reducible exact LeO.none _)
   | (with_reducible refine LeO.ite ?_ ?_)
   | (with_reducible refine LeO.bind ?_ (fun _ => ?_))
   | exact ih0 _ _ _
   | exact ih1 _ _ _ _
   | exact impl_KeptOk.mono _ _
   | exact laws_alive.mono _
   | exact spec_DrawKeptOk.mono _ _
   | exact spec_KeptOk.mono _ _
   | exact LeO.none _
   | refine LeO.ite ?_ ?_
   | refine LeO.bind ?_ (fun _ => ?_)
  ·intro y0 y1 y2 y3
   unfold laws_FnKeptOk.j1
   repeat' first
   | (with_reducible exact ih0 _ _ _)
   | (with_reducible exact ih1 _ _ _ _)
   | (with_reducible exact impl_KeptOk.mono _ _)
   | (with_reducible exact laws_alive.mono _)
   | (with_reducible exact spec_DrawKeptOk.mono _ _)
   | (with_reducible exact spec_KeptOk.mono _ _)
   | (with_reducible exact LeO.refl _)
   | (with_reducible exact LeO.none _)
   | (with_reducible refine LeO.ite ?_ ?_)
   | (with_reducible refine LeO.bind ?_ (fun _ => ?_))
   | exact ih0 _ _ _
   | exact ih1 _ _ _ _
   | exact impl_KeptOk.mono _ _
   | exact laws_alive.mono _
   | exact spec_DrawKeptOk.mono _ _
   | exact spec_KeptOk.mono _ _
   | exact LeO.none _
   | refine LeO.ite ?_ ?_
   | refine LeO.bind ?_ (fun _ => ?_)
theorem laws_FnKeptOk.mono : ∀ a0 k, LeO (laws_FnKeptOk.f k a0) (laws_FnKeptOk.f (k + 1) a0) := by
 intro a0 k
 obtain ⟨ih0, ih1⟩ := laws_FnKeptOk.mono_l k
 unfold laws_FnKeptOk.f
 repeat' first
   | (with_reducible exact ih0 _ _ _)
   | (with_reducible exact ih1 _ _ _ _)
   | (with_reducible exact impl_KeptOk.mono _ _)
   | (with_reducible exact laws_alive.mono _)
   | (with_reducible exact spec_DrawKeptOk.mono _ _)
   | (with_reducible exact spec_KeptOk.mono _ _)
   | (with_reducible exact LeO.refl _)
   | (with_reducible exact LeO.none _)
   | (with_reducible refine LeO.ite ?_ ?_)
   | (with_reducible refine LeO.bind ?_ (fun _ => ?_))
   | exact ih0 _ _ _
   | exact ih1 _ _ _ _
   | exact impl_KeptOk.mono _ _
   | exact laws_alive.mono _
   | exact spec_DrawKeptOk.mono _ _
   | exact spec_KeptOk.mono _ _
   | exact LeO.none _
   | refine LeO.ite ?_ ?_
   | refine LeO.bind ?_ (fun _ => ?_)
set_option maxHeartbeats 8000000 in
set_option maxRecDepth 100000 in
theorem laws_FnKeptOk.calls (k : Nat) (A0 : Option Addr) (c0 : Nat) (l0 : List Int) (r : Bool) (w : World) (hr0 : Kd.C (Kd.int .u8) w A0 l0.length l0) (hc0 : l0.length ≤ c0) (h : laws_FnKeptOk.f k l0 = some r) :
  Calls Try.prog 12 #[.slice A0 l0.length c0] w fun e w' => e = .returned (.bool r) ∧ Below w.heap.size w w' := by
 have HR0 := Aside0.mk hr0
 have HC0 := Aside0.mk hc0
 clear hr0 hc0
 have HB := Aside0.mk (Below.refl w.heap.size w)
 have H : (if (l0.length : Int) > 1048576 then (some true) else ((spec_DrawKeptOk.f k l0).bind fun t308 => ((impl_KeptOk.f k t308).bind fun t311 => ((spec_KeptOk.f k t308).bind fun t312 => (if (t311 != t312) = true then (some false) else (laws_FnKeptOk.l0 k t308 t311 0)))))) = some r := h
 clear h
 by_cases c2 : (l0.length : Int) > 1048576
 ·rw [if_pos c2] at H
  have c2b0 : decide (1048576 < (l0.length : Int)) = true := decide_eq_true c2
  have c2b1 : decide (1048576 < l0.length) = true := decide_eq_true (z_4)
  clear c2
  obtain rfl := Option.some.inj H
  go_enter Try.func12, Try.ntmps12
  go_wp2
  go_ret
  exact ⟨z_11, z_6⟩
 ·rw [if_neg c2] at H
  have c2b0 : decide (1048576 < (l0.length : Int)) = false := decide_eq_false c2
  have c2b1 : decide (1048576 < l0.length) = false := decide_eq_false (z_4)
  clear c2
  replace H := Option.bind_eq_some_iff.mp H
  obtain ⟨t308, A30, H⟩ := H
  have A3 := Aside0.mk A30
  clear A30
  replace H := Option.bind_eq_some_iff.mp H
  obtain ⟨t311, A40, H⟩ := H
  have A4 := Aside0.mk A40
  clear A40
  replace H := Option.bind_eq_some_iff.mp H
  obtain ⟨t312, A50, H⟩ := H
  have A5 := Aside0.mk A50
  clear A50
  by_cases c6 : (t311 != t312) = true
  ·rw [if_pos c6] at H
   have c6b0 : (t311 != t312) = true := c6
   (try (have c6b1 : decide (t311 = t312) = false := by simpa using c6))
   (try (have c6b2 : (t311 == t312) = false := by simpa using c6))
   (try (have c6b3 : ¬ (t311 = t312) := by simpa using c6))
   clear c6
   obtain rfl := Option.some.inj H
   go_enter Try.func12, Try.ntmps12
   go_wp2_with (first | ((with_reducible refine gate_callee (f := 42) rfl ?_); refine goesL_ (some 10) rfl rfl Try.func42 (z_0) rfl #[.slice A0 l0.length c0] rfl (z_12) ?_; (with_reducible refine (spec_DrawKeptOk.calls k _ _ l0 t308 _ ?side1 ?side2 A3.out).mono ?_); (case side1 => exact z_87); (case side2 => exact HC0.out); rintro e w7 ⟨v309, rfl, ho0, hb⟩; refine ⟨_, rfl, ?_⟩; have n0_ := Aside0.mk (Kd.Q_lower ho0 (below_size (z_6))); have n1_ := Aside0.mk (below_step (z_6) hb); clear HB; have HO310 := n0_; have HB := n1_; clear n0_ n1_; (try clear hb); (try clear hb2); (try clear hk); (try clear hi); (try clear ho0); obtain ⟨Ao8, co8, eo8, _⟩ := Kd.Q_slice HO310.out; subst eo8) | ((with_reducible refine gate_callee (f := 36) rfl ?_); refine goesL_ (some 12) rfl rfl Try.func36 (z_0) rfl #[.slice Ao8 t308.length co8] rfl (z_12) ?_; (with_reducible refine (impl_KeptOk.calls k _ _ t308 t311 _ ?side1 ?side2 A4.out).mono ?_); (case side1 => exact z_88); (case side2 => exact (Kd.Q_reads' HO310.out).2.1); rintro e w9 ⟨rfl, hb⟩; refine ⟨_, rfl, ?_⟩; have n0_ := Aside0.mk (Kd.Q_below (z_89) hb); have n1_ := Aside0.mk (below_step (z_6) hb); clear HO310; clear HB; have HO310 := n0_; have HB := n1_; clear n0_ n1_; (try clear hb); (try clear hb2); (try clear hk); (try clear hi)) | ((with_reducible refine gate_callee (f := 34) rfl ?_); refine goesL_ (some 15) rfl rfl Try.func34 (z_0) rfl #[.slice Ao8 t308.length co8] rfl (z_12) ?_; (with_reducible refine (spec_KeptOk.calls k _ _ t308 t312 _ ?side1 ?side2 A5.out).mono ?_); (case side1 => exact z_88); (case side2 => exact (Kd.Q_reads' HO310.out).2.1); rintro e w10 ⟨rfl, hb⟩; refine ⟨_, rfl, ?_⟩; have n0_ := Aside0.mk (Kd.Q_below (z_89) hb); have n1_ := Aside0.mk (below_step (z_6) hb); clear HO310; clear HB; have HO310 := n0_; have HB := n1_; clear n0_ n1_; (try clear hb); (try clear hb2); (try clear hk); (try clear hi)))
   go_ret
   exact ⟨z_11, z_6⟩
  ·rw [if_neg c6] at H
   have c6b0 : (t311 != t312) = false := by simpa using c6
   (try (have c6b1 : decide (t311 = t312) = true := by simpa using c6))
   (try (have c6b2 : (t311 == t312) = true := by simpa using c6))
   clear c6
   have H' := Aside0.mk H
   clear H
   go_enter Try.func12, Try.ntmps12
   go_wp2_with (first | ((with_reducible refine gate_callee (f := 42) rfl ?_); refine goesL_ (some 10) rfl rfl Try.func42 (z_0) rfl #[.slice A0 l0.length c0] rfl (z_12) ?_; (with_reducible refine (spec_DrawKeptOk.calls k _ _ l0 t308 _ ?side1 ?side2 A3.out).mono ?_); (case side1 => exact z_87); (case side2 => exact HC0.out); rintro e w11 ⟨v309, rfl, ho0, hb⟩; refine ⟨_, rfl, ?_⟩; have n0_ := Aside0.mk (Kd.Q_lower ho0 (below_size (z_6))); have n1_ := Aside0.mk (below_step (z_6) hb); clear HB; have HO310 := n0_; have HB := n1_; clear n0_ n1_; (try clear hb); (try clear hb2); (try clear hk); (try clear hi); (try clear ho0); obtain ⟨Ao12, co12, eo12, _⟩ := Kd.Q_slice HO310.out; subst eo12) | ((with_reducible refine gate_callee (f := 36) rfl ?_); refine goesL_ (some 12) rfl rfl Try.func36 (z_0) rfl #[.slice Ao12 t308.length co12] rfl (z_12) ?_; (with_reducible refine (impl_KeptOk.calls k _ _ t308 t311 _ ?side1 ?side2 A4.out).mono ?_); (case side1 => exact z_88); (case side2 => exact (Kd.Q_reads' HO310.out).2.1); rintro e w13 ⟨rfl, hb⟩; refine ⟨_, rfl, ?_⟩; have n0_ := Aside0.mk (Kd.Q_below (z_89) hb); have n1_ := Aside0.mk (below_step (z_6) hb); clear HO310; clear HB; have HO310 := n0_; have HB := n1_; clear n0_ n1_; (try clear hb); (try clear hb2); (try clear hk); (try clear hi)) | ((with_reducible refine gate_callee (f := 34) rfl ?_); refine goesL_ (some 15) rfl rfl Try.func34 (z_0) rfl #[.slice Ao12 t308.length co12] rfl (z_12) ?_; (with_reducible refine (spec_KeptOk.calls k _ _ t308 t312 _ ?side1 ?side2 A5.out).mono ?_); (case side1 => exact z_88); (case side2 => exact (Kd.Q_reads' HO310.out).2.1); rintro e w14 ⟨rfl, hb⟩; refine ⟨_, rfl, ?_⟩; have n0_ := Aside0.mk (Kd.Q_below (z_89) hb); have n1_ := Aside0.mk (below_step (z_6) hb); clear HO310; clear HB; have HO310 := n0_; have HB := n1_; clear n0_ n1_; (try clear hb); (try clear hb2); (try clear hk); (try clear hi)))
   go_loopg [5] k (fun kq v5 w' => ∃ (x5_1 : Int), v5 = .int .i64 x5_1 ∧ Aside0 (laws_FnKeptOk.l0 kq t308 t311 x5_1 = some r) ∧ Aside0 (kq ≤ k) ∧ Aside0 (Kd.Q k83 83 w' w.heap.size (fun _ => True) (.slice Ao12 t308.length co12) t308) ∧ Aside0 (Below w.heap.size w w'))
   case atStart => exact ⟨(0), (z_1), H', ⟨Nat.le_refl _⟩, ⟨z_89⟩, ⟨z_6⟩⟩
   case round =>
    clear H'
    try clear c1
    try clear c2
    try clear c2b0
    try clear c2b1
    try clear p2
    try clear c3
    try clear c4
    try clear c6
    try clear c6b0
    try clear c6b1
    try clear c6b2
    try clear c12
    obtain ⟨x5_1, rfl, HA, HK1, HO_3, HB⟩ := hrel
    cases gk with
    | zero => exact absurd HA.out (by simp [laws_FnKeptOk.l0])
    | succ k1 =>
     have H := HA.out
     clear HA
     simp only [laws_FnKeptOk.l0] at H
     have HC15 := Aside0.mk H
     clear H
     go_upto_region 8 with (fail)
     go_cut [23] (fun v23 wc => ∃ (kq : Nat) (x23_14 : Bool), v23 = .bool x23_14 ∧ Aside0 (laws_FnKeptOk.j1 kq t308 t311 x5_1 x23_14 = some r) ∧ Aside0 (kq ≤ k1) ∧ Aside0 (Kd.Q k83 83 wc w.heap.size (fun _ => True) (.slice Ao12 t308.length co12) t308) ∧ Aside0 (Below w.heap.size w wc))
     case first =>
      have H := HC15.out
      clear HC15
      by_cases c16 : x5_1 < (t308.length : Int)
      ·rw [if_pos c16] at H
       have c16b0 : decide (x5_1 < (t308.length : Int)) = true := decide_eq_true c16
       clear c16
       (first | rw [c16b0] | (simp only [i64_w, i32_w]; rw [c16b0]) | skip)
       have H' := Aside0.mk H
       clear H
       go_wp2
       go_meet
       case rel => exact ⟨_, (t311), (z_1), H', ⟨z_20⟩, ⟨z_90⟩, ⟨z_6⟩⟩
      ·rw [if_neg c16] at H
       have c16b0 : decide (x5_1 < (t308.length : Int)) = false := decide_eq_false c16
       clear c16
       (first | rw [c16b0] | (simp only [i64_w, i32_w]; rw [c16b0]) | skip)
       have H' := Aside0.mk H
       clear H
       go_wp2
       go_meet
       case rel => exact ⟨_, (false), (z_1), H', ⟨z_20⟩, ⟨z_90⟩, ⟨z_6⟩⟩
     case rest =>
      clear HC15
      try clear c1
      try clear c2
      try clear c2b0
      try clear c2b1
      try clear p2
      try clear c3
      try clear c4
      try clear c6
      try clear c6b0
      try clear c6b1
      try clear c6b2
      try clear c12
      try clear c16
      try clear c16b0
      try clear p2
      obtain ⟨kq, x23_14, rfl, HA, HJ14, HO_3, HB⟩ := hcut
      cases kq with
      | zero => exact absurd HA.out (by simp [laws_FnKeptOk.j1])
      | succ kj14 =>
       have H := HA.out
       clear HA
       simp only [laws_FnKeptOk.j1] at H
       by_cases c17 : x23_14 = true
       ·subst c17
        rw [if_pos rfl] at H
        obtain ⟨y313, hy313⟩ : ∃ y_ : List (S83), y_ = (([] : List (S83))) := ⟨_, rfl⟩
        replace H : (if 0 ≤ x5_1 then (if x5_1 ≤ (t308.length : Int) then ((some (t308.take (x5_1 : Int).toNat : List (S83))).bind fun y316 => (if y313.length + y316.length < 2199023255552 then ((impl_KeptOk.f kj14 (y313 ++ y316)).bind fun t323 => (if t323 = true then (laws_FnKeptOk.l0 kj14 t308 t311 (wrap64 (x5_1 + 1))) else (some false))) else (none))) else (none)) else (none)) = some r := by first | (rw [hy313]; with_reducible exact H) | (have H2_ := (Option.bind_some _ _).symm.trans H; rw [hy313]; with_reducible exact H2_) | (have H2_ := (Option.bind_some _ _).symm.trans H; with_reducible exact H2_) | with_reducible exact H | (rw [hy313]; exact H) | exact H
        have Ny313 := Aside0.mk hy313
        clear hy313
        by_cases c18 : 0 ≤ x5_1
        ·rw [if_pos c18] at H
         have c18b0 := eq_true c18
         have c18b1 : decide (0 ≤ x5_1) = true := decide_eq_true c18
         clear c18
         by_cases c19 : x5_1 ≤ (t308.length : Int)
         ·rw [if_pos c19] at H
          have c19b0 := eq_true c19
          have c19b1 : decide (x5_1 ≤ (t308.length : Int)) = true := decide_eq_true c19
          clear c19
          obtain ⟨y316, hy316⟩ : ∃ y_ : List (S83), y_ = (t308.take (x5_1 : Int).toNat) := ⟨_, rfl⟩
          replace H : (if y313.length + y316.length < 2199023255552 then ((impl_KeptOk.f kj14 (y313 ++ y316)).bind fun t323 => (if t323 = true then (laws_FnKeptOk.l0 kj14 t308 t311 (wrap64 (x5_1 + 1))) else (some false))) else (none)) = some r := by first | (rw [hy316]; with_reducible exact H) | (have H2_ := (Option.bind_some _ _).symm.trans H; rw [hy316]; with_reducible exact H2_) | (have H2_ := (Option.bind_some _ _).symm.trans H; with_reducible exact H2_) | with_reducible exact H | (rw [hy316]; exact H) | exact H
          have Ny316 := Aside0.mk hy316
          clear hy316
          by_cases c20 : y313.length + y316.length < 2199023255552
          ·rw [if_pos c20] at H
           have LMc20 := Aside0.mk c20
           clear c20
           obtain ⟨y320, hy320⟩ : ∃ y_ : List (S83), y_ = (y313 ++ y316) := ⟨_, rfl⟩
           replace H : ((impl_KeptOk.f kj14 y320).bind fun t323 => (if t323 = true then (laws_FnKeptOk.l0 kj14 t308 t311 (wrap64 (x5_1 + 1))) else (some false))) = some r := by first | (rw [hy320]; with_reducible exact H) | (have H2_ := (Option.bind_some _ _).symm.trans H; rw [hy320]; with_reducible exact H2_) | (have H2_ := (Option.bind_some _ _).symm.trans H; with_reducible exact H2_) | with_reducible exact H | (rw [hy320]; exact H) | exact H
           have Ny320 := Aside0.mk hy320
           clear hy320
           replace H := Option.bind_eq_some_iff.mp H
           obtain ⟨t323, A210, H⟩ := H
           have A21 := Aside0.mk A210
           clear A210
           by_cases c22 : t323 = true
           ·subst c22
            rw [if_pos rfl] at H
            have H' := Aside0.mk H
            clear H
            go_wp2_with (first | ((with_reducible refine gate_dst (N := 26) rfl ?_); refine Kd.R_lit k83 _ 83 ?hg (N := 26) ?hd (xs := ([] : List (S83))) (inner := []) (ok := fun _ => True) (okp := fun _ => True) ?hr ?hp (fun _ hk => hk) trivial (Below.refl _ _) (Nat.le_refl _) (z_10) ?_; (case hd => rfl); (case hg => rfl); (case hr => exact z_7); (case hp => exact z_44); intro v314 w23 ho24 hb hg_ hnew_; clear hg_ hnew_; (first | rw [← Ny313.out] at ho24 | (simp only [Int.reduceToNat] at ho24; rw [← Ny313.out] at ho24)); have n0_ := Aside0.mk (Kd.Q_elder' (z_90) (Kd.R_base ho24) hb); have n1_ := Aside0.mk (Kd.R_lower (Kd.R_new' ho24 (Kd.Q_lt (z_90))) (below_size (z_6))); have n2_ := Aside0.mk (below_step (z_6) hb); clear HO_3; clear HB; have HO_3 := n0_; have HO315 := n1_; have HB := n2_; clear n0_ n1_ n2_; clear hb ho24; have q25 : (x5_1 : Int) ≤ ((t308.length : Int) : Int) := of_decide_eq_true (z_5); obtain ⟨i025, hi025, _, hsz25, _⟩ := info_parts info83; have hroom25 : t308.length ≤ co12 := (Kd.Q_reads' HO_3.out).2.1; have hC25 : Kd.C k83 _ Ao12 t308.length t308 := (Kd.Q_reads' HO_3.out).2.2; have hcut25 := cut_to (P := Try.prog) 48 83 .i64 Try.underlying48 hi025 Ao12 t308.length co12 x5_1 (of_decide_eq_true (z_5)) q25 hroom25; have hr25 := Kd.C_take (m := (x5_1 : Int).toNat) hC25 (z_4); have hy25 : y316.length = (x5_1 : Int).toNat := (by rw [Ny316.out, List.length_take]; omega); rw [← Ny316.out] at hr25; rw [← hy25] at hcut25; have HR319 := Aside0.mk hr25; have HC319 := Aside0.mk (show y316.length ≤ co12 from z_4); clear hr25 hC25 hroom25 hi025 hsz25; have KY25 := Aside0.mk hy25; clear hy25; have KL25 := Aside0.mk (show (x5_1 : Int).toNat ≤ t308.length from z_4); replace q25 := eq_true q25) | ((with_reducible refine gate_builtin (b := .append) (xs := #[.tmp 26, .tmp 29]) rfl ?_); at_builtin; refine Kd.R_append_rows k83 (w0 := w) w.heap.size rfl (.tmp 26) (.tmp 29) 48 83 (.agg #[(.string ⟨#[]⟩), (.int .i64 0), (.int .i64 0), (.string ⟨#[]⟩), (.int .i64 0), (.int .i64 0)]) 64 rfl Try.underlying48 info83 rfl (z_3) (z_4) v314 y313 y316 _ _ _ (fun k_ => some k_ ≠ (.slice Ao12 t308.length co12 : Value).ownBlock) (fun _ => False) rfl rfl ?aO ?aR (fun _ _ h => h) (fun _ h => h.elim) ?aF ?aB ?aS ?aL ?_; (case aR => exact z_92); (case aB => exact z_21); (case aF => exact z_93); (case aO => exact z_94); (case aS => exact z_22); (case aL => have := LMc20.out; omega); intro v321 w26 ho hb hg hat; rw [← Ny320.out] at ho; have n0_ := Aside0.mk (Kd.Q_after (ok := (fun _ => True)) (z_90) hg hat); have n1_ := Aside0.mk (hb); have n2_ := Aside0.mk ((show Kd.C k83 w26 Ao12 y316.length y316 from by rw [Ny316.out]; exact Kd.C_take (m := (x5_1 : Int).toNat) ((Kd.Q_reads' (Kd.Q_after (ok := (fun _ => True)) (z_90) hg hat)).2.2) KL25.out)); have n3_ := Aside0.mk (ho); clear HO_3; clear HB; clear HR319; clear HO315; have HO_3 := n0_; have HB := n1_; have HR319 := n2_; have HO322 := n3_; clear n0_ n1_ n2_ n3_; clear ho hb hg hat; obtain ⟨Ao27, co27, eo27⟩ := Kd.R_slice HO322.out; subst eo27) | ((with_reducible refine gate_callee (f := 36) rfl ?_); refine goesL_ (some 31) rfl rfl Try.func36 (z_0) rfl #[.slice Ao27 y320.length co27] rfl (z_12) ?_; (with_reducible refine (impl_KeptOk.calls kj14 _ _ y320 true _ ?side1 ?side2 A21.out).mono ?_); (case side1 => exact z_95); (case side2 => exact (Kd.R_reads' HO322.out).2.1); rintro e w28 ⟨rfl, hb⟩; refine ⟨_, rfl, ?_⟩; have n0_ := Aside0.mk (Kd.Q_below (z_90) hb); have n1_ := Aside0.mk (Kd.R_below (z_96) hb); have n2_ := Aside0.mk (Kd.C_below (z_91) hb); have n3_ := Aside0.mk (below_step (z_6) hb); clear HO_3; clear HO322; clear HR319; clear HB; have HO_3 := n0_; have HO322 := n1_; have HR319 := n2_; have HB := n3_; clear n0_ n1_ n2_ n3_; (try clear hb); (try clear hb2); (try clear hk); (try clear hi)))
            go_roundg kj14
            case measure => have := HK1.out; have := HJ14.out; omega
            case rel => exact ⟨(wrap64 (x5_1 + 1)), (z_1), H', ⟨by have := HK1.out; have := HJ14.out; omega⟩, ⟨by (with_reducible repeat (first | apply Kd.Q_alloc | apply Kd.Q_drewN | apply Kd.Q_drew)); exact Kd.Q_mono HO_3.out (fun _ hk => trivial)⟩, ⟨z_6⟩⟩
           ·replace c22 := Bool.eq_false_iff.mpr c22
            subst c22
            rw [if_neg (show ¬ (false = true) by decide)] at H
            obtain rfl := Option.some.inj H
            go_wp2_with (first | ((with_reducible refine gate_dst (N := 26) rfl ?_); refine Kd.R_lit k83 _ 83 ?hg (N := 26) ?hd (xs := ([] : List (S83))) (inner := []) (ok := fun _ => True) (okp := fun _ => True) ?hr ?hp (fun _ hk => hk) trivial (Below.refl _ _) (Nat.le_refl _) (z_10) ?_; (case hd => rfl); (case hg => rfl); (case hr => exact z_7); (case hp => exact z_44); intro v314 w29 ho30 hb hg_ hnew_; clear hg_ hnew_; (first | rw [← Ny313.out] at ho30 | (simp only [Int.reduceToNat] at ho30; rw [← Ny313.out] at ho30)); have n0_ := Aside0.mk (Kd.Q_elder' (z_90) (Kd.R_base ho30) hb); have n1_ := Aside0.mk (Kd.R_lower (Kd.R_new' ho30 (Kd.Q_lt (z_90))) (below_size (z_6))); have n2_ := Aside0.mk (below_step (z_6) hb); clear HO_3; clear HB; have HO_3 := n0_; have HO315 := n1_; have HB := n2_; clear n0_ n1_ n2_; clear hb ho30; have q31 : (x5_1 : Int) ≤ ((t308.length : Int) : Int) := of_decide_eq_true (z_5); obtain ⟨i031, hi031, _, hsz31, _⟩ := info_parts info83; have hroom31 : t308.length ≤ co12 := (Kd.Q_reads' HO_3.out).2.1; have hC31 : Kd.C k83 _ Ao12 t308.length t308 := (Kd.Q_reads' HO_3.out).2.2; have hcut31 := cut_to (P := Try.prog) 48 83 .i64 Try.underlying48 hi031 Ao12 t308.length co12 x5_1 (of_decide_eq_true (z_5)) q31 hroom31; have hr31 := Kd.C_take (m := (x5_1 : Int).toNat) hC31 (z_4); have hy31 : y316.length = (x5_1 : Int).toNat := (by rw [Ny316.out, List.length_take]; omega); rw [← Ny316.out] at hr31; rw [← hy31] at hcut31; have HR319 := Aside0.mk hr31; have HC319 := Aside0.mk (show y316.length ≤ co12 from z_4); clear hr31 hC31 hroom31 hi031 hsz31; have KY31 := Aside0.mk hy31; clear hy31; have KL31 := Aside0.mk (show (x5_1 : Int).toNat ≤ t308.length from z_4); replace q31 := eq_true q31) | ((with_reducible refine gate_builtin (b := .append) (xs := #[.tmp 26, .tmp 29]) rfl ?_); at_builtin; refine Kd.R_append_rows k83 (w0 := w) w.heap.size rfl (.tmp 26) (.tmp 29) 48 83 (.agg #[(.string ⟨#[]⟩), (.int .i64 0), (.int .i64 0), (.string ⟨#[]⟩), (.int .i64 0), (.int .i64 0)]) 64 rfl Try.underlying48 info83 rfl (z_3) (z_4) v314 y313 y316 _ _ _ (fun k_ => some k_ ≠ (.slice Ao12 t308.length co12 : Value).ownBlock) (fun _ => False) rfl rfl ?aO ?aR (fun _ _ h => h) (fun _ h => h.elim) ?aF ?aB ?aS ?aL ?_; (case aR => exact z_92); (case aB => exact z_21); (case aF => exact z_93); (case aO => exact z_94); (case aS => exact z_22); (case aL => have := LMc20.out; omega); intro v321 w32 ho hb hg hat; rw [← Ny320.out] at ho; have n0_ := Aside0.mk (Kd.Q_after (ok := (fun _ => True)) (z_90) hg hat); have n1_ := Aside0.mk (hb); have n2_ := Aside0.mk ((show Kd.C k83 w32 Ao12 y316.length y316 from by rw [Ny316.out]; exact Kd.C_take (m := (x5_1 : Int).toNat) ((Kd.Q_reads' (Kd.Q_after (ok := (fun _ => True)) (z_90) hg hat)).2.2) KL31.out)); have n3_ := Aside0.mk (ho); clear HO_3; clear HB; clear HR319; clear HO315; have HO_3 := n0_; have HB := n1_; have HR319 := n2_; have HO322 := n3_; clear n0_ n1_ n2_ n3_; clear ho hb hg hat; obtain ⟨Ao33, co33, eo33⟩ := Kd.R_slice HO322.out; subst eo33) | ((with_reducible refine gate_callee (f := 36) rfl ?_); refine goesL_ (some 31) rfl rfl Try.func36 (z_0) rfl #[.slice Ao33 y320.length co33] rfl (z_12) ?_; (with_reducible refine (impl_KeptOk.calls kj14 _ _ y320 false _ ?side1 ?side2 A21.out).mono ?_); (case side1 => exact z_95); (case side2 => exact (Kd.R_reads' HO322.out).2.1); rintro e w34 ⟨rfl, hb⟩; refine ⟨_, rfl, ?_⟩; have n0_ := Aside0.mk (Kd.Q_below (z_90) hb); have n1_ := Aside0.mk (Kd.R_below (z_96) hb); have n2_ := Aside0.mk (Kd.C_below (z_91) hb); have n3_ := Aside0.mk (below_step (z_6) hb); clear HO_3; clear HO322; clear HR319; clear HB; have HO_3 := n0_; have HO322 := n1_; have HR319 := n2_; have HB := n3_; clear n0_ n1_ n2_ n3_; (try clear hb); (try clear hb2); (try clear hk); (try clear hi)))
            go_ret
            exact ⟨z_11, z_6⟩
          ·rw [if_neg c20] at H
           exact absurd H (z_10)
         ·rw [if_neg c19] at H
          exact absurd H (z_10)
        ·rw [if_neg c18] at H
         exact absurd H (z_10)
       ·replace c17 := Bool.eq_false_iff.mpr c17
        subst c17
        rw [if_neg (show ¬ (false = true) by decide)] at H
        obtain ⟨y324, hy324⟩ : ∃ y_ : List (S83), y_ = (([] : List (S83))) := ⟨_, rfl⟩
        replace H : ((impl_KeptOk.f kj14 y324).bind fun t327 => (if t327 = true then ((laws_alive.f kj14).bind fun t328 => (some t328)) else (some false))) = some r := by first | (rw [hy324]; with_reducible exact H) | (have H2_ := (Option.bind_some _ _).symm.trans H; rw [hy324]; with_reducible exact H2_) | (have H2_ := (Option.bind_some _ _).symm.trans H; with_reducible exact H2_) | with_reducible exact H | (rw [hy324]; exact H) | exact H
        have Ny324 := Aside0.mk hy324
        clear hy324
        replace H := Option.bind_eq_some_iff.mp H
        obtain ⟨t327, A350, H⟩ := H
        have A35 := Aside0.mk A350
        clear A350
        by_cases c36 : t327 = true
        ·subst c36
         rw [if_pos rfl] at H
         replace H := Option.bind_eq_some_iff.mp H
         obtain ⟨t328, A370, H⟩ := H
         have A37 := Aside0.mk A370
         clear A370
         obtain rfl := Option.some.inj H
         go_wp2_with (first | ((with_reducible refine gate_dst (N := 33) rfl ?_); refine Kd.R_lit k83 _ 83 ?hg (N := 33) ?hd (xs := ([] : List (S83))) (inner := []) (ok := fun _ => True) (okp := fun _ => True) ?hr ?hp (fun _ hk => hk) trivial (Below.refl _ _) (Nat.le_refl _) (z_10) ?_; (case hd => rfl); (case hg => rfl); (case hr => exact z_7); (case hp => exact z_44); intro v325 w38 ho39 hb hg_ hnew_; clear hg_ hnew_; (first | rw [← Ny324.out] at ho39 | (simp only [Int.reduceToNat] at ho39; rw [← Ny324.out] at ho39)); have n0_ := Aside0.mk (Kd.Q_elder' (z_90) (Kd.R_base ho39) hb); have n1_ := Aside0.mk (Kd.R_lower (Kd.R_new' ho39 (Kd.Q_lt (z_90))) (below_size (z_6))); have n2_ := Aside0.mk (below_step (z_6) hb); clear HO_3; clear HB; have HO_3 := n0_; have HO326 := n1_; have HB := n2_; clear n0_ n1_ n2_; clear hb ho39; obtain ⟨Ao40, co40, eo40⟩ := Kd.R_slice HO326.out; subst eo40) | ((with_reducible refine gate_callee (f := 36) rfl ?_); refine goesL_ (some 34) rfl rfl Try.func36 (z_0) rfl #[.slice Ao40 y324.length co40] rfl (z_12) ?_; (with_reducible refine (impl_KeptOk.calls kj14 _ _ y324 true _ ?side1 ?side2 A35.out).mono ?_); (case side1 => exact z_97); (case side2 => exact (Kd.R_reads' HO326.out).2.1); rintro e w41 ⟨rfl, hb⟩; refine ⟨_, rfl, ?_⟩; have n0_ := Aside0.mk (Kd.Q_below (z_90) hb); have n1_ := Aside0.mk (Kd.R_below (z_98) hb); have n2_ := Aside0.mk (below_step (z_6) hb); clear HO_3; clear HO326; clear HB; have HO_3 := n0_; have HO326 := n1_; have HB := n2_; clear n0_ n1_ n2_; (try clear hb); (try clear hb2); (try clear hk); (try clear hi)) | (go_at_call 23; (with_reducible refine (laws_alive.calls kj14  t328 _ A37.out).mono ?_); rintro e w42 ⟨rfl, hb⟩; have n0_ := Aside0.mk (Kd.Q_below (z_90) hb); have n1_ := Aside0.mk (Kd.R_below (z_98) hb); have n2_ := Aside0.mk (below_step (z_6) hb); clear HO_3; clear HO326; clear HB; have HO_3 := n0_; have HO326 := n1_; have HB := n2_; clear n0_ n1_ n2_; (try clear hb); (try clear hb2); (try clear hk); (try clear hi)))
         go_ret
         exact ⟨z_11, z_6⟩
        ·replace c36 := Bool.eq_false_iff.mpr c36
         subst c36
         rw [if_neg (show ¬ (false = true) by decide)] at H
         obtain rfl := Option.some.inj H
         go_wp2_with (first | ((with_reducible refine gate_dst (N := 33) rfl ?_); refine Kd.R_lit k83 _ 83 ?hg (N := 33) ?hd (xs := ([] : List (S83))) (inner := []) (ok := fun _ => True) (okp := fun _ => True) ?hr ?hp (fun _ hk => hk) trivial (Below.refl _ _) (Nat.le_refl _) (z_10) ?_; (case hd => rfl); (case hg => rfl); (case hr => exact z_7); (case hp => exact z_44); intro v325 w43 ho44 hb hg_ hnew_; clear hg_ hnew_; (first | rw [← Ny324.out] at ho44 | (simp only [Int.reduceToNat] at ho44; rw [← Ny324.out] at ho44)); have n0_ := Aside0.mk (Kd.Q_elder' (z_90) (Kd.R_base ho44) hb); have n1_ := Aside0.mk (Kd.R_lower (Kd.R_new' ho44 (Kd.Q_lt (z_90))) (below_size (z_6))); have n2_ := Aside0.mk (below_step (z_6) hb); clear HO_3; clear HB; have HO_3 := n0_; have HO326 := n1_; have HB := n2_; clear n0_ n1_ n2_; clear hb ho44; obtain ⟨Ao45, co45, eo45⟩ := Kd.R_slice HO326.out; subst eo45) | ((with_reducible refine gate_callee (f := 36) rfl ?_); refine goesL_ (some 34) rfl rfl Try.func36 (z_0) rfl #[.slice Ao45 y324.length co45] rfl (z_12) ?_; (with_reducible refine (impl_KeptOk.calls kj14 _ _ y324 false _ ?side1 ?side2 A35.out).mono ?_); (case side1 => exact z_97); (case side2 => exact (Kd.R_reads' HO326.out).2.1); rintro e w46 ⟨rfl, hb⟩; refine ⟨_, rfl, ?_⟩; have n0_ := Aside0.mk (Kd.Q_below (z_90) hb); have n1_ := Aside0.mk (Kd.R_below (z_98) hb); have n2_ := Aside0.mk (below_step (z_6) hb); clear HO_3; clear HO326; clear HB; have HO_3 := n0_; have HO326 := n1_; have HB := n2_; clear n0_ n1_ n2_; (try clear hb); (try clear hb2); (try clear hk); (try clear hi)))
         go_ret
         exact ⟨z_11, z_6⟩

/-- THE ONE PURE STATEMENT of laws_FnKeptOk: yours. -/
def laws_FnKeptOk.Pure : Prop := ∀ (l0 : List Int), l0.length ≤ maxLen → l0.length * 1 ≤ 140737488351232 → (∀ x ∈ l0, (Lit.int .u8 x).wf = true) → ∃ k, laws_FnKeptOk.f k l0 = some true
theorem laws_FnKeptOk.walk (P : laws_FnKeptOk.Pure) (a0 : Option Addr) (len0 cap0 : Nat) (z0 : List Int) (w : World) (w0 : (a0 = none ∧ len0 = 0 ∧ cap0 = 0 ∧ z0 = []) ∨ ∃ x, a0 = some x ∧ len0 ≤ cap0 ∧ cap0 ≤ maxLen ∧ z0.length = cap0 ∧ (∀ i, i < z0.length → w.cell? (x.add i) = some (.int .u8 (z0.getD i 0))) ∧ ∀ n ∈ z0, (Lit.int .u8 n).wf = true) (y0 : len0 * 1 ≤ 140737488351232) :
  Calls Try.prog 12 #[.slice a0 len0 cap0] w fun e w' => e = .returned (.bool true) ∧ Below w.heap.size w w' := by
 obtain ⟨l0, rfl, hr0, hm0, hw0, hc0⟩ := ReadsInt.ofRowC w0
 obtain ⟨k, h⟩ := P l0 hm0 y0 hw0
 refine (laws_FnKeptOk.calls k _ _ l0 true w (Kd.C_of_reads (d := (0 : Int)) (h1 := fun _ => rfl) hr0) hc0 h).mono ?_
 rintro e w' ⟨rfl, hd⟩
 exact ⟨rfl, hd⟩

end Go.Proofs.Ytmgnmgobibpjjaa.GFnKeptOk
