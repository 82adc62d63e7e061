/- What the Go functions that FnKeptFind reaches come to, walked step by step; there is no condition beyond those each statement names. -/
import Derived.Lib.SliceRun
import Derived.Test.YtmgnmgobibpjjaaGFnKeptFindx0
import Derived.Test.YtmgnmgobibpjjaaGFnKeptFindx2
import Derived.Test.YtmgnmgobibpjjaaGFnKeptFindx3
import Derived.Test.YtmgnmgobibpjjaaGFnKeptFindx5
import Derived.Test.YtmgnmgobibpjjaaGFnKeptFindx6
import Derived.Test.YtmgnmgobibpjjaaGFnKeptFindx7
import Derived.Test.YtmgnmgobibpjjaaGFnKeptFindx11
namespace Go.Proofs.Ytmgnmgobibpjjaa.GFnKeptFind
open Go.RowKit Go.Proofs.YtmgnmgobibpjjaaVKeptFind.PrintWords Go.Proofs.YtmgnmgobibpjjaaVKeptFind.PrintLast Go.Proofs.YtmgnmgobibpjjaaVKeptFind.PrintMore
attribute [local go_sem] max2_int min2_int max_two min_two max_three min_three max_four min_four   -- for this text's walks alone
set_option linter.unusedVariables false
set_option linter.unusedSimpArgs false

/-! ### spec_l20Kept: function 72 -/
mutual
def spec_l20Kept.l0 : Nat → List (S26) → Int → List (S83) → Int → List Int → Int → Option ((List (S83)) × Int)
 | 0, _, _, _, _, _, _ => none
 | k + 1, x1, x2, x7, x8, x1000, x1001 => if x8 > 0 then ((spec_l20Text.f k x1000 x1001).bind fun bt291 => ((spec_l20Rd_pick.f k x1000 bt291.2 20).bind fun bt293 => ((spec_KeptAsk.f k x7 x1 bt291.1 bt293.1).bind fun bt295 => (spec_l20Kept.l0 k x1 x2 bt295.1 (wrap64 (x8 - 1)) x1000 bt293.2)))) else (if (x7.length : Int) > 0 then ((spec_l20Rd_odd.f k x1000 x1001 x2).bind fun bt304 => (spec_l20Kept.j1 k x7 bt304.1 x1000 bt304.2)) else (spec_l20Kept.j1 k x7 false x1000 x1001))
def spec_l20Kept.j1 : Nat → List (S83) → Bool → List Int → Int → Option ((List (S83)) × Int)
 | 0, _, _, _, _ => none
 | k + 1, x7, x34, x1000, x1001 => if x34 = true then ((spec_l20Rd_pick.f k x1000 x1001 3).bind fun bt306 => (if bt306.1 = 0 then (if 0 < (x7.length : Int) then (if x7.length < 2199023255552 then (some ((x7 ++ [(⟨(⟨(rd_T83 x7 0).f0.f0, (rd_T83 x7 0).f0.f1, (rd_T83 x7 0).f0.f2, (rd_T83 x7 0).f0.f3, (rd_T83 x7 0).f0.f4⟩ : S26), (rd_T83 x7 0).f1⟩ : S83)]), bt306.2)) else (none)) else (none)) else (if bt306.1 = 1 then (if 0 < (x7.length : Int) then (some ((x7.set (0 : Int).toNat (⟨(⟨(rd_T83 x7 0).f0.f0, (rd_T83 x7 0).f0.f1, (rd_T83 x7 0).f0.f2, (rd_T83 x7 0).f0.f3, (rd_T83 x7 0).f0.f4⟩ : S26), (-1)⟩ : S83)), bt306.2)) else (none)) else (if 0 < (x7.length : Int) then (some ((x7.set (0 : Int).toNat (⟨(⟨(⟨#[]⟩ : ByteArray), (rd_T83 x7 0).f0.f1, (rd_T83 x7 0).f0.f2, (rd_T83 x7 0).f0.f3, (rd_T83 x7 0).f0.f4⟩ : S26), (rd_T83 x7 0).f1⟩ : S83)), bt306.2)) else (none))))) else (some (x7, x1001))
end
def spec_l20Kept.f (k : Nat) (s0_0 : List Int) (s0_1 : Int) (l1 : List (S26)) (a2 : Int) : Option ((List (S83)) × Int) := (spec_l20Rd_pick.f k s0_0 s0_1 9).bind fun bt289 => (spec_l20Kept.l0 k l1 a2 (([] : List (S83))) bt289.1 s0_0 bt289.2)
theorem spec_l20Kept.mono_l : ∀ k, (∀ y0 y1 y2 y3 y4 y5, LeO (spec_l20Kept.l0 k y0 y1 y2 y3 y4 y5) (spec_l20Kept.l0 (k + 1) y0 y1 y2 y3 y4 y5)) ∧ (∀ y0 y1 y2 y3, LeO (spec_l20Kept.j1 k y0 y1 y2 y3) (spec_l20Kept.j1 (k + 1) y0 y1 y2 y3))
 | 0 => ⟨fun _ _ _ _ _ _ r h => by simp [spec_l20Kept.l0] at h, fun _ _ _ _ r h => by simp [spec_l20Kept.j1] at h⟩
 | k + 1 => by
  obtain ⟨ih0, ih1⟩ := spec_l20Kept.mono_l k
  refine ⟨?_, ?_⟩
  ·intro y0 y1 y2 y3 y4 y5
   unfold spec_l20Kept.l0
   repeat' first
   | (with_reducible exact ih0 _ _ _ _ _ _)
   | (with_reducible exact ih1 _ _ _ _)
   | (with_reducible exact spec_KeptAsk.mono _ _ _ _ _)
   | (with_reducible exact spec_l20Rd_odd.mono _ _ _ _)
   | (with_reducible exact spec_l20Rd_pick.mono _ _ _ _)
   | (with_reducible exact spec_l20Text.mono _ _ _)
   | (with_reducible exact LeO.refl _)
   | (with_reducible exact LeO.none _)
   | (with_reducible refine LeO.ite ?_ ?_)
   | (with_reducible refine LeO.bind ?_ (fun _ => ?_))
   | exact ih0 _ _ _ _ _ _
   | exact ih1 _ _ _ _
   | exact spec_KeptAsk.mono _ _ _ _ _
   | exact spec_l20Rd_odd.mono _ _ _ _
   | exact spec_l20Rd_pick.mono _ _ _ _
   | exact spec_l20Text.mono _ _ _
   | exact LeO.none _
   | refine LeO.ite ?_ ?_
   | refine LeO.bind ?_ (fun _ => ?_)
  ·intro y0 y1 y2 y3
   unfold spec_l20Kept.j1
   repeat' first
   | (with_reducible exact ih0 _ _ _ _ _ _)
   | (with_reducible exact ih1 _ _ _ _)
   | (with_reducible exact spec_KeptAsk.mono _ _ _ _ _)
   | (with_reducible exact spec_l20Rd_odd.mono _ _ _ _)
   | (with_reducible exact spec_l20Rd_pick.mono _ _ _ _)
   | (with_reducible exact spec_l20Text.mono _ _ _)
   | (with_reducible exact LeO.refl _)
   | (with_reducible exact LeO.none _)
   | (with_reducible refine LeO.ite ?_ ?_)
   | (with_reducible refine LeO.bind ?_ (fun _ => ?_))
   | exact ih0 _ _ _ _ _ _
   | exact ih1 _ _ _ _
   | exact spec_KeptAsk.mono _ _ _ _ _
   | exact spec_l20Rd_odd.mono _ _ _ _
   | exact spec_l20Rd_pick.mono _ _ _ _
   | exact spec_l20Text.mono _ _ _
   | exact LeO.none _
   | refine LeO.ite ?_ ?_
   | refine LeO.bind ?_ (fun _ => ?_)
theorem spec_l20Kept.mono : ∀ a0 a1 a2 a3 k, LeO (spec_l20Kept.f k a0 a1 a2 a3) (spec_l20Kept.f (k + 1) a0 a1 a2 a3) := by
 intro a0 a1 a2 a3 k
 obtain ⟨ih0, ih1⟩ := spec_l20Kept.mono_l k
 unfold spec_l20Kept.f
 repeat' first
   | (with_reducible exact ih0 _ _ _ _ _ _)
   | (with_reducible exact ih1 _ _ _ _)
   | (with_reducible exact spec_KeptAsk.mono _ _ _ _ _)
   | (with_reducible exact spec_l20Rd_odd.mono _ _ _ _)
   | (with_reducible exact spec_l20Rd_pick.mono _ _ _ _)
   | (with_reducible exact spec_l20Text.mono _ _ _)
   | (with_reducible exact LeO.refl _)
   | (with_reducible exact LeO.none _)
   | (with_reducible refine LeO.ite ?_ ?_)
   | (with_reducible refine LeO.bind ?_ (fun _ => ?_))
   | exact ih0 _ _ _ _ _ _
   | exact ih1 _ _ _ _
   | exact spec_KeptAsk.mono _ _ _ _ _
   | exact spec_l20Rd_odd.mono _ _ _ _
   | exact spec_l20Rd_pick.mono _ _ _ _
   | exact spec_l20Text.mono _ _ _
   | exact LeO.none _
   | refine LeO.ite ?_ ?_
   | refine LeO.bind ?_ (fun _ => ?_)
set_option maxHeartbeats 8000000 in
set_option maxRecDepth 100000 in
theorem spec_l20Kept.calls (k : Nat) (g : Nat) (s0_0 : List Int) (s0_1 : Int) (A1 : Option Addr) (c1 : Nat) (l1 : List (S26)) (a2 : Int) (r1 : List (S83)) (r2 : Int) (w0 w : World) (hI : IsS96 w0 w g s0_0 s0_1) (hB : Below w0.heap.size w0 w) (hr1 : ∀ W_, KeepBut w W_ g none → Kd.C k26 W_ A1 l1.length l1) (hc1 : l1.length ≤ c1) (h : spec_l20Kept.f k s0_0 s0_1 l1 a2 = some (r1, r2)) :
  Calls Try.prog 72 #[.pointer (some ⟨g, 0, none⟩), .slice A1 l1.length c1, .int .i64 a2] w fun e w' => ∃ v0_ : Value, e = .returned (v0_) ∧ Kd.Q k83 83 w' w.heap.size (fun _ => True) v0_ r1 ∧ IsS96 w0 w' g s0_0 r2 ∧ Below w0.heap.size w0 w' ∧ KeepBut w w' g none := by
 have hu83 := Try.underlying83
 have HR1 := Aside0.mk hr1
 have HC1 := Aside0.mk hc1
 clear hr1 hc1
 have HI0 := Aside0.mk hI
 have HK := Aside0.mk (KeepBut.refl w g none)
 have HL := Aside0.mk hB.size
 clear hI
 have HW0 := Aside0.mk hB.size
 have HB := Aside0.mk hB
 clear hB
 have H : ((spec_l20Rd_pick.f k s0_0 s0_1 9).bind fun bt289 => (spec_l20Kept.l0 k l1 a2 (([] : List (S83))) bt289.1 s0_0 bt289.2)) = some (r1, r2) := h
 clear h
 obtain ⟨y286, hy286⟩ : ∃ y_ : List (S83), y_ = (([] : List (S83))) := ⟨_, rfl⟩
 replace H : ((spec_l20Rd_pick.f k s0_0 s0_1 9).bind fun bt289 => (spec_l20Kept.l0 k l1 a2 y286 bt289.1 s0_0 bt289.2)) = some (r1, r2) := by first | (rw [hy286]; with_reducible exact H) | (have H2_ := (Option.bind_some _ _).symm.trans H; rw [hy286]; with_reducible exact H2_) | (have H2_ := (Option.bind_some _ _).symm.trans H; with_reducible exact H2_) | with_reducible exact H | (rw [hy286]; exact H) | exact H
 have Ny286 := Aside0.mk hy286
 clear hy286
 replace H := Option.bind_eq_some_iff.mp H
 obtain ⟨⟨t289, t290⟩, A40, H⟩ := H
 replace H : (spec_l20Kept.l0 k l1 a2 y286 t289 s0_0 t290) = some (r1, r2) := H
 have A4 := Aside0.mk A40
 clear A40
 have H' := Aside0.mk H
 clear H
 go_enter Try.func72, Try.ntmps72
 go_wp2_with (first | ((with_reducible refine gate_dst (N := 9) rfl ?_); refine Kd.R_lit k83 _ 83 ?hg (N := 9) ?hd (xs := ([] : List (S83))) (inner := []) (ok := fun _ => True) (okp := fun _ => True) ?hr ?hp (fun _ hk => hk) trivial (Below.refl _ _) (Nat.le_refl _) (z_12) ?_; (case hd => rfl); (case hg => rfl); (case hr => exact z_9); (case hp => exact z_44); intro v287 w5 ho6 hb hg_ hnew_; clear hg_ hnew_; (first | rw [← Ny286.out] at ho6 | (simp only [Int.reduceToNat] at ho6; rw [← Ny286.out] at ho6)); have n0_ := Aside0.mk (Kd.R_lower ho6 (keep_size (w := w) (g := g) (row := none) (z_31))); have n1_ := Aside0.mk (IsS96.below (z_32) hb); have n2_ := Aside0.mk (KeepBut.trans (z_31) (KeepBut.of_below hb g none) (.inl rfl)); have n3_ := Aside0.mk (below_step (z_33) hb); clear HI0; clear HK; clear HB; have HO288 := n0_; have HI0 := n1_; have HK := n2_; have HB := n3_; clear n0_ n1_ n2_ n3_; clear hb ho6) | ((with_reducible refine gate_callee (f := 69) rfl ?_); refine goesL_ (some 11) rfl rfl Try.func69 (z_0) rfl #[.pointer (some ⟨g, 0, none⟩), .int .i64 9] rfl (z_14) ?_; (with_reducible refine (spec_l20Rd_pick.calls k g s0_0 s0_1 9 t289 t290 w0 _ ?side1 ?side2 A4.out).mono ?_); (case side1 => exact z_32); (case side2 => exact z_33); rintro e w7 ⟨rfl, hi, hb, hk⟩; refine ⟨_, rfl, ?_⟩; have n0_ := Aside0.mk (Kd.R_mono (Kd.R_keep (IsS96.apart (show IsS96 w0 _ g s0_0 s0_1 from z_32) (z_86) (z_5)) hk (fun _ h => h.2)) (fun _ h => h.1)); have n1_ := Aside0.mk (KeepBut.trans (z_31) hk (.inl rfl)); have n2_ := Aside0.mk (hb); have n3_ := Aside0.mk (hi); clear HO288; clear HK; clear HB; clear HI0; have HO288 := n0_; have HK := n1_; have HB := n2_; have HI0 := n3_; clear n0_ n1_ n2_ n3_; (try clear hb); (try clear hb2); (try clear hk); (try clear hi)))
 go_loopg [7, 8] k (fun kq v7 v8 w' => ∃ (x7_1 : List (S83)) (x8_1 : Int) (x1001_1 : Int), v8 = .int .i64 x8_1 ∧ Aside0 (spec_l20Kept.l0 kq l1 a2 x7_1 x8_1 s0_0 x1001_1 = some (r1, r2)) ∧ Aside0 (kq ≤ k) ∧ Aside0 (Kd.Q k83 83 w' w.heap.size (fun _ => True) v7 x7_1) ∧ Aside0 (IsS96 w0 w' g s0_0 x1001_1) ∧ Aside0 (KeepBut w w' g none) ∧ Aside0 (Below w0.heap.size w0 w'))
 case atStart => exact ⟨(y286), (t289), (t290), (z_3), H', ⟨Nat.le_refl _⟩, ⟨Kd.Q_of_R (z_86)⟩, ⟨z_32⟩, ⟨z_31⟩, ⟨z_33⟩⟩
 case round =>
  clear H'
  try clear c1
  try clear p2
  try clear c6
  try clear c7
  obtain ⟨x7_1, x8_1, x1001_1, rfl, HA, HK1, HO_7, HI0, HK, HB⟩ := hrel
  cases gk with
  | zero => exact absurd HA.out (by simp [spec_l20Kept.l0])
  | succ k1 =>
   have H := HA.out
   clear HA
   simp only [spec_l20Kept.l0] at H
   by_cases c8 : x8_1 > 0
   ·rw [if_pos c8] at H
    have c8b0 : decide (0 < x8_1) = true := decide_eq_true c8
    clear c8
    replace H := Option.bind_eq_some_iff.mp H
    obtain ⟨⟨t291, t292⟩, A90, H⟩ := H
    replace H : ((spec_l20Rd_pick.f k1 s0_0 t292 20).bind fun bt293 => ((spec_KeptAsk.f k1 x7_1 l1 t291 bt293.1).bind fun bt295 => (spec_l20Kept.l0 k1 l1 a2 bt295.1 (wrap64 (x8_1 - 1)) s0_0 bt293.2))) = some (r1, r2) := H
    have A9 := Aside0.mk A90
    clear A90
    replace H := Option.bind_eq_some_iff.mp H
    obtain ⟨⟨t293, t294⟩, A100, H⟩ := H
    replace H : ((spec_KeptAsk.f k1 x7_1 l1 t291 t293).bind fun bt295 => (spec_l20Kept.l0 k1 l1 a2 bt295.1 (wrap64 (x8_1 - 1)) s0_0 t294)) = some (r1, r2) := H
    have A10 := Aside0.mk A100
    clear A100
    replace H := Option.bind_eq_some_iff.mp H
    obtain ⟨⟨t295, t298, t299, t300, t301, t302, t303⟩, A110, H⟩ := H
    replace H : (spec_l20Kept.l0 k1 l1 a2 t295 (wrap64 (x8_1 - 1)) s0_0 t294) = some (r1, r2) := H
    have A11 := Aside0.mk A110
    clear A110
    have H' := Aside0.mk H
    clear H
    go_wp2_with (first | ((with_reducible refine gate_callee (f := 68) rfl ?_); refine goesL_ (some 20) rfl rfl Try.func68 (z_0) rfl #[.pointer (some ⟨g, 0, none⟩)] rfl (z_14) ?_; (with_reducible refine (spec_l20Text.calls k1 g s0_0 x1001_1 t291 t292 w0 _ ?side1 ?side2 A9.out).mono ?_); (case side1 => exact z_32); (case side2 => exact z_33); rintro e w12 ⟨rfl, hi, hb, hk⟩; refine ⟨_, rfl, ?_⟩; have n0_ := Aside0.mk (Kd.Q_mono (Kd.Q_keep (IsS96.apartQ (show IsS96 w0 _ g s0_0 x1001_1 from z_32) (z_87) (z_5)) hk (fun _ h => h.2)) (fun _ h => h.1)); have n1_ := Aside0.mk (KeepBut.trans (z_31) hk (.inl rfl)); have n2_ := Aside0.mk (hb); have n3_ := Aside0.mk (hi); clear HO_7; clear HK; clear HB; clear HI0; have HO_7 := n0_; have HK := n1_; have HB := n2_; have HI0 := n3_; clear n0_ n1_ n2_ n3_; (try clear hb); (try clear hb2); (try clear hk); (try clear hi)) | ((with_reducible refine gate_callee (f := 69) rfl ?_); refine goesL_ (some 22) rfl rfl Try.func69 (z_0) rfl #[.pointer (some ⟨g, 0, none⟩), .int .i64 20] rfl (z_14) ?_; (with_reducible refine (spec_l20Rd_pick.calls k1 g s0_0 t292 20 t293 t294 w0 _ ?side1 ?side2 A10.out).mono ?_); (case side1 => exact z_32); (case side2 => exact z_33); rintro e w13 ⟨rfl, hi, hb, hk⟩; refine ⟨_, rfl, ?_⟩; have n0_ := Aside0.mk (Kd.Q_mono (Kd.Q_keep (IsS96.apartQ (show IsS96 w0 _ g s0_0 t292 from z_32) (z_87) (z_5)) hk (fun _ h => h.2)) (fun _ h => h.1)); have n1_ := Aside0.mk (KeepBut.trans (z_31) hk (.inl rfl)); have n2_ := Aside0.mk (hb); have n3_ := Aside0.mk (hi); clear HO_7; clear HK; clear HB; clear HI0; have HO_7 := n0_; have HK := n1_; have HB := n2_; have HI0 := n3_; clear n0_ n1_ n2_ n3_; (try clear hb); (try clear hb2); (try clear hk); (try clear hi); obtain ⟨Ao14, co14, eo14, _⟩ := Kd.Q_slice HO_7.out; subst eo14) | ((with_reducible refine gate_callee (f := 45) rfl ?_); refine goesL_ (some 23) rfl rfl Try.func45 (z_0) rfl #[.slice Ao14 x7_1.length co14, .slice A1 l1.length c1, .string t291, .int .i64 t293] rfl (z_14) ?_; (with_reducible refine (spec_KeptAsk.calls k1 _ _ x7_1 _ _ l1 t291 t293 t295 t298 t299 t300 t301 t302 t303 _ ?side1 ?side2 ?side3 ?side4 A11.out).mono ?_); (case side1 => repeat (first | exact (Kd.Q_reads' HO_7.out).2.2 | (with_reducible refine Kd.C_alloc ?_ _) | (with_reducible refine Kd.C_drewN ?_ _) | (with_reducible refine Kd.C_drew ?_))); (case side2 => exact (Kd.Q_reads' HO_7.out).2.1); (case side3 => exact Kd.C_foot_now HR1.out (z_31)); (case side4 => exact HC1.out); rintro e w15 ⟨v296, rfl, ho0, hb⟩; refine ⟨_, rfl, ?_⟩; have n0_ := Aside0.mk (Kd.Q_elder' (z_87) (Kd.Q_base ho0) hb); have n1_ := Aside0.mk (Kd.Q_lower (Kd.Q_new' ho0 (Kd.Q_lt (z_87))) (keep_size (w := w) (g := g) (row := none) (z_31))); have n2_ := Aside0.mk (IsS96.below (z_32) hb); have n3_ := Aside0.mk (KeepBut.trans (z_31) (KeepBut.of_below hb g none) (.inl rfl)); have n4_ := Aside0.mk (below_step (z_33) hb); clear HO_7; clear HI0; clear HK; clear HB; have HO_7 := n0_; have HO297 := n1_; have HI0 := n2_; have HK := n3_; have HB := n4_; clear n0_ n1_ n2_ n3_ n4_; (try clear hb); (try clear hb2); (try clear hk); (try clear hi); (try clear ho0)))
    go_roundg k1
    case measure => have := HK1.out; omega
    case rel => exact ⟨(t295), (wrap64 (x8_1 - 1)), (t294), (z_3), H', ⟨z_10⟩, ⟨by (with_reducible repeat (first | apply Kd.Q_alloc | apply Kd.Q_drewN | apply Kd.Q_drew)); exact Kd.Q_mono HO297.out (fun _ hk => trivial)⟩, ⟨z_32⟩, ⟨z_31⟩, ⟨z_33⟩⟩
   ·rw [if_neg c8] at H
    have c8b0 : decide (0 < x8_1) = false := decide_eq_false c8
    clear c8
    have HC16 := Aside0.mk H
    clear H
    go_upto_region 6 with (fail)
    go_cut [34] (fun v34 wc => ∃ (kq : Nat) (x34_15 : Bool) (x1001_15 : Int), v34 = .bool x34_15 ∧ Aside0 (spec_l20Kept.j1 kq x7_1 x34_15 s0_0 x1001_15 = some (r1, r2)) ∧ Aside0 (kq ≤ k1) ∧ Aside0 (Kd.Q k83 83 wc w.heap.size (fun _ => True) u7 x7_1) ∧ Aside0 (IsS96 w0 wc g s0_0 x1001_15) ∧ Aside0 (KeepBut w wc g none) ∧ Aside0 (Below w0.heap.size w0 wc))
    case first =>
     have H := HC16.out
     clear HC16
     by_cases c17 : (x7_1.length : Int) > 0
     ·rw [if_pos c17] at H
      have c17b0 : decide (0 < (x7_1.length : Int)) = true := decide_eq_true c17
      have c17b1 : decide (0 < x7_1.length) = true := decide_eq_true (z_6)
      clear c17
      (first | rw [c17b0] | (simp only [i64_w, i32_w]; rw [c17b0]) | skip)
      replace H := Option.bind_eq_some_iff.mp H
      obtain ⟨⟨t304, t305⟩, A180, H⟩ := H
      replace H : (spec_l20Kept.j1 k1 x7_1 t304 s0_0 t305) = some (r1, r2) := H
      have A18 := Aside0.mk A180
      clear A180
      have H' := Aside0.mk H
      clear H
      obtain ⟨Ao19, co19, eo19, _⟩ := Kd.Q_slice HO_7.out
      subst eo19
      go_wp2_with (first | (go_at_call 78; (with_reducible refine (spec_l20Rd_odd.calls k1 g s0_0 x1001_1 a2 t304 t305 w0 _ ?side1 ?side2 A18.out).mono ?_); (case side1 => exact z_32); (case side2 => exact z_33); rintro e w20 ⟨rfl, hi, hb, hk⟩; have n0_ := Aside0.mk (Kd.Q_mono (Kd.Q_keep (IsS96.apartQ (show IsS96 w0 _ g s0_0 x1001_1 from z_32) (z_87) (z_5)) hk (fun _ h => h.2)) (fun _ h => h.1)); have n1_ := Aside0.mk (KeepBut.trans (z_31) hk (.inl rfl)); have n2_ := Aside0.mk (hb); have n3_ := Aside0.mk (hi); clear HO_7; clear HK; clear HB; clear HI0; have HO_7 := n0_; have HK := n1_; have HB := n2_; have HI0 := n3_; clear n0_ n1_ n2_ n3_; (try clear hb); (try clear hb2); (try clear hk); (try clear hi)))
      go_meet
      case rel => exact ⟨_, (t304), (t305), (z_3), H', ⟨z_59⟩, ⟨z_87⟩, ⟨z_32⟩, ⟨z_31⟩, ⟨z_33⟩⟩
     ·rw [if_neg c17] at H
      have c17b0 : decide (0 < (x7_1.length : Int)) = false := decide_eq_false c17
      have c17b1 : decide (0 < x7_1.length) = false := decide_eq_false (z_6)
      clear c17
      (first | rw [c17b0] | (simp only [i64_w, i32_w]; rw [c17b0]) | skip)
      have H' := Aside0.mk H
      clear H
      obtain ⟨Ao21, co21, eo21, _⟩ := Kd.Q_slice HO_7.out
      subst eo21
      go_wp2
      go_meet
      case rel => exact ⟨_, (false), (x1001_1), (z_3), H', ⟨z_59⟩, ⟨z_87⟩, ⟨z_32⟩, ⟨z_31⟩, ⟨z_33⟩⟩
    case rest =>
     clear HC16
     try clear c1
     try clear p2
     try clear c4
     try clear c6
     try clear p6
     try clear c7
     try clear c8
     try clear c8b0
     try clear c17
     try clear c17b0
     try clear c17b1
     try clear p2
     obtain ⟨kq, x34_15, x1001_15, rfl, HA, HJ15, HO_7, HI0, HK, HB⟩ := hcut
     cases kq with
     | zero => exact absurd HA.out (by simp [spec_l20Kept.j1])
     | succ kj15 =>
      have H := HA.out
      clear HA
      simp only [spec_l20Kept.j1] at H
      by_cases c22 : x34_15 = true
      ·subst c22
       rw [if_pos rfl] at H
       replace H := Option.bind_eq_some_iff.mp H
       obtain ⟨⟨t306, t307⟩, A230, H⟩ := H
       replace H : (if t306 = 0 then (if 0 < (x7_1.length : Int) then (if x7_1.length < 2199023255552 then (some ((x7_1 ++ [(⟨(⟨(rd_T83 x7_1 0).f0.f0, (rd_T83 x7_1 0).f0.f1, (rd_T83 x7_1 0).f0.f2, (rd_T83 x7_1 0).f0.f3, (rd_T83 x7_1 0).f0.f4⟩ : S26), (rd_T83 x7_1 0).f1⟩ : S83)]), t307)) else (none)) else (none)) else (if t306 = 1 then (if 0 < (x7_1.length : Int) then (some ((x7_1.set (0 : Int).toNat (⟨(⟨(rd_T83 x7_1 0).f0.f0, (rd_T83 x7_1 0).f0.f1, (rd_T83 x7_1 0).f0.f2, (rd_T83 x7_1 0).f0.f3, (rd_T83 x7_1 0).f0.f4⟩ : S26), (-1)⟩ : S83)), t307)) else (none)) else (if 0 < (x7_1.length : Int) then (some ((x7_1.set (0 : Int).toNat (⟨(⟨(⟨#[]⟩ : ByteArray), (rd_T83 x7_1 0).f0.f1, (rd_T83 x7_1 0).f0.f2, (rd_T83 x7_1 0).f0.f3, (rd_T83 x7_1 0).f0.f4⟩ : S26), (rd_T83 x7_1 0).f1⟩ : S83)), t307)) else (none)))) = some (r1, r2) := H
       have A23 := Aside0.mk A230
       clear A230
       by_cases c24 : t306 = 0
       ·rw [if_pos c24] at H
        have c24b0 : (t306 == 0) = true := beq_iff_eq.mpr c24
        have c24b1 : (t306 != 0) = false := bne_eq_false_iff_eq.mpr c24
        clear c24
        by_cases c25 : 0 < (x7_1.length : Int)
        ·rw [if_pos c25] at H
         have c25b0 : decide (0 < (x7_1.length : Int)) = true := decide_eq_true c25
         have c25b1 : decide (0 < x7_1.length) = true := decide_eq_true (z_6)
         clear c25
         by_cases c26 : x7_1.length < 2199023255552
         ·rw [if_pos c26] at H
          have LMc26 := Aside0.mk c26
          clear c26
          obtain ⟨y309, hy309⟩ : ∃ y_ : List (S83), y_ = (x7_1 ++ [(⟨(⟨(rd_T83 x7_1 0).f0.f0, (rd_T83 x7_1 0).f0.f1, (rd_T83 x7_1 0).f0.f2, (rd_T83 x7_1 0).f0.f3, (rd_T83 x7_1 0).f0.f4⟩ : S26), (rd_T83 x7_1 0).f1⟩ : S83)]) := ⟨_, rfl⟩
          replace H : (some (y309, t307)) = some (r1, r2) := by first | (rw [hy309]; with_reducible exact H) | (have H2_ := (Option.bind_some _ _).symm.trans H; rw [hy309]; with_reducible exact H2_) | (have H2_ := (Option.bind_some _ _).symm.trans H; with_reducible exact H2_) | with_reducible exact H | (rw [hy309]; exact H) | exact H
          have Ny309 := Aside0.mk hy309
          clear hy309
          simp only [Option.some.injEq, Prod.mk.injEq] at H
          obtain ⟨rfl, rfl⟩ := H
          go_wp2_with (first | ((with_reducible refine gate_callee (f := 69) rfl ?_); refine goesL_ (some 36) rfl rfl Try.func69 (z_0) rfl #[.pointer (some ⟨g, 0, none⟩), .int .i64 3] rfl (z_14) ?_; (with_reducible refine (spec_l20Rd_pick.calls kj15 g s0_0 x1001_15 3 t306 t307 w0 _ ?side1 ?side2 A23.out).mono ?_); (case side1 => exact z_32); (case side2 => exact z_33); rintro e w27 ⟨rfl, hi, hb, hk⟩; refine ⟨_, rfl, ?_⟩; have n0_ := Aside0.mk (Kd.Q_mono (Kd.Q_keep (IsS96.apartQ (show IsS96 w0 _ g s0_0 x1001_15 from z_32) (z_87) (z_5)) hk (fun _ h => h.2)) (fun _ h => h.1)); have n1_ := Aside0.mk (KeepBut.trans (z_31) hk (.inl rfl)); have n2_ := Aside0.mk (hb); have n3_ := Aside0.mk (hi); clear HO_7; clear HK; clear HB; clear HI0; have HO_7 := n0_; have HK := n1_; have HB := n2_; have HI0 := n3_; clear n0_ n1_ n2_ n3_; (try clear hb); (try clear hb2); (try clear hk); (try clear hi); obtain ⟨Ao28, co28, eo28, _⟩ := Kd.Q_slice HO_7.out; subst eo28; have p308 : 0 ≤ (0 : Int) := (z_6); have q308 : 0 < (x7_1.length : Int) := of_decide_eq_true (z_7); obtain ⟨ad308, e308, hx308_0, hx308_1, hx308_2, hx308_3, hx308_4, hx308_5⟩ := at_T83 (Kd.Q_reads' HO_7.out).2.2 0 p308 q308; cases e308; have qi308 : (0 < x7_1.length) = True := eq_true (z_6); (try rw [show ((0 : Int)).toNat = 0 from rfl] at hx308_0); (try rw [show 0 * 6 = 0 from rfl] at hx308_0); (try rw [Addr.add_zero'] at hx308_0); (try rw [show ((0 : Int)).toNat = 0 from rfl] at hx308_1); (try rw [show 0 * 6 = 0 from rfl] at hx308_1); (try rw [Addr.add_zero'] at hx308_1); (try rw [show ((0 : Int)).toNat = 0 from rfl] at hx308_2); (try rw [show 0 * 6 = 0 from rfl] at hx308_2); (try rw [Addr.add_zero'] at hx308_2); (try rw [show ((0 : Int)).toNat = 0 from rfl] at hx308_3); (try rw [show 0 * 6 = 0 from rfl] at hx308_3); (try rw [Addr.add_zero'] at hx308_3); (try rw [show ((0 : Int)).toNat = 0 from rfl] at hx308_4); (try rw [show 0 * 6 = 0 from rfl] at hx308_4); (try rw [Addr.add_zero'] at hx308_4); (try rw [show ((0 : Int)).toNat = 0 from rfl] at hx308_5); (try rw [show 0 * 6 = 0 from rfl] at hx308_5); (try rw [Addr.add_zero'] at hx308_5); replace p308 := eq_true p308; replace q308 := eq_true q308) | ((with_reducible refine gate_builtin (b := .append) (xs := #[.tmp 43, .tmp 47]) rfl ?_); at_builtin; refine Kd.Q_append k83 w.heap.size rfl (.tmp 43) (.tmp 47) 48 83 (.agg #[(.string ⟨#[]⟩), (.int .i64 0), (.int .i64 0), (.string ⟨#[]⟩), (.int .i64 0), (.int .i64 0)]) 64 rfl Try.underlying48 info83 rfl (z_5) (z_6) (.slice (some ad308) x7_1.length co28) x7_1 (⟨(⟨(rd_T83 x7_1 0).f0.f0, (rd_T83 x7_1 0).f0.f1, (rd_T83 x7_1 0).f0.f2, (rd_T83 x7_1 0).f0.f3, (rd_T83 x7_1 0).f0.f4⟩ : S26), (rd_T83 x7_1 0).f1⟩ : S83) [.string ((rd_T83 x7_1 0).f0.f0), .int .i64 ((rd_T83 x7_1 0).f0.f1), .int .i64 ((rd_T83 x7_1 0).f0.f2), .string ((rd_T83 x7_1 0).f0.f3), .int .i64 ((rd_T83 x7_1 0).f0.f4), .int .i64 ((rd_T83 x7_1 0).f1)] (fun _ => True) (fun _ => False) rfl rfl ?aP (fun _ hk => hk.elim) ?aF ?aO (Below.refl _ _) ?aS ?aL ?_; (case aP => exact k83_mkM _ _ _ (⟨(⟨(rd_T83 x7_1 0).f0.f0, (rd_T83 x7_1 0).f0.f1, (rd_T83 x7_1 0).f0.f2, (rd_T83 x7_1 0).f0.f3, (rd_T83 x7_1 0).f0.f4⟩ : S26), (rd_T83 x7_1 0).f1⟩ : S83)); (case aF => exact z_52); (case aO => exact (z_87)); (case aS => exact z_53); (case aL => have := LMc26.out; omega); intro v310 w29 ho hb hg hat; rw [← Ny309.out] at ho; have n0_ := Aside0.mk (IsS96.grown (z_32) hg (IsS96.own_neQ HI0.out HO_7.out (z_5))); have n1_ := Aside0.mk (below_weaken (z_33) HL.out hb); have n2_ := Aside0.mk (KeepBut.trans (z_31) (KeepBut.of_grown hg g) (Kd.Q_base2 HO_7.out)); have n3_ := Aside0.mk (ho); clear HI0; clear HB; clear HK; clear HO_7; have HI0 := n0_; have HB := n1_; have HK := n2_; have HO311 := n3_; clear n0_ n1_ n2_ n3_; clear ho hb hg hat))
          go_ret
          exact ⟨_, z_13, by (with_reducible repeat (first | apply Kd.Q_alloc | apply Kd.Q_drewN | apply Kd.Q_drew)); exact HO311.out, z_32, z_33, z_31⟩
         ·rw [if_neg c26] at H
          exact absurd H (z_12)
        ·rw [if_neg c25] at H
         exact absurd H (z_12)
       ·rw [if_neg c24] at H
        have c24b0 : (t306 == 0) = false := beq_eq_false_iff_ne.mpr c24
        have c24b1 : (t306 != 0) = true := bne_iff_ne.mpr c24
        by_cases c30 : t306 = 1
        ·rw [if_pos c30] at H
         have c30b0 : (t306 == 1) = true := beq_iff_eq.mpr c30
         have c30b1 : (t306 != 1) = false := bne_eq_false_iff_eq.mpr c30
         clear c30
         by_cases c31 : 0 < (x7_1.length : Int)
         ·rw [if_pos c31] at H
          have c31b0 : decide (0 < (x7_1.length : Int)) = true := decide_eq_true c31
          have c31b1 : decide (0 < x7_1.length) = true := decide_eq_true (z_6)
          clear c31
          obtain ⟨y312, hy312⟩ : ∃ y_ : List (S83), y_ = (x7_1.set (0 : Int).toNat (⟨(⟨(rd_T83 x7_1 0).f0.f0, (rd_T83 x7_1 0).f0.f1, (rd_T83 x7_1 0).f0.f2, (rd_T83 x7_1 0).f0.f3, (rd_T83 x7_1 0).f0.f4⟩ : S26), (-1)⟩ : S83)) := ⟨_, rfl⟩
          replace H : (some (y312, t307)) = some (r1, r2) := by first | (rw [hy312]; with_reducible exact H) | (have H2_ := (Option.bind_some _ _).symm.trans H; rw [hy312]; with_reducible exact H2_) | (have H2_ := (Option.bind_some _ _).symm.trans H; with_reducible exact H2_) | with_reducible exact H | (rw [hy312]; exact H) | exact H
          have Ny312 := Aside0.mk hy312
          clear hy312
          simp only [Option.some.injEq, Prod.mk.injEq] at H
          obtain ⟨rfl, rfl⟩ := H
          go_wp2_with (first | ((with_reducible refine gate_callee (f := 69) rfl ?_); refine goesL_ (some 36) rfl rfl Try.func69 (z_0) rfl #[.pointer (some ⟨g, 0, none⟩), .int .i64 3] rfl (z_14) ?_; (with_reducible refine (spec_l20Rd_pick.calls kj15 g s0_0 x1001_15 3 t306 t307 w0 _ ?side1 ?side2 A23.out).mono ?_); (case side1 => exact z_32); (case side2 => exact z_33); rintro e w33 ⟨rfl, hi, hb, hk⟩; refine ⟨_, rfl, ?_⟩; have n0_ := Aside0.mk (Kd.Q_mono (Kd.Q_keep (IsS96.apartQ (show IsS96 w0 _ g s0_0 x1001_15 from z_32) (z_87) (z_5)) hk (fun _ h => h.2)) (fun _ h => h.1)); have n1_ := Aside0.mk (KeepBut.trans (z_31) hk (.inl rfl)); have n2_ := Aside0.mk (hb); have n3_ := Aside0.mk (hi); clear HO_7; clear HK; clear HB; clear HI0; have HO_7 := n0_; have HK := n1_; have HB := n2_; have HI0 := n3_; clear n0_ n1_ n2_ n3_; (try clear hb); (try clear hb2); (try clear hk); (try clear hi); have p32 : 0 ≤ (0 : Int) := (z_6); have q32 : (0 : Int) < ((x7_1.length : Int) : Int) := of_decide_eq_true (z_7); have qi32 : (0 < x7_1.length) = True := eq_true (z_6); obtain ⟨go32, oo32, co32, eo32, gb32, gl32, cl32, HG32⟩ := Kd.Q_form HO_7.out (z_6); (first | cases eo32 | (injection eo32 with ea_ en_ ec_; (first | subst ea_ | (injection ea_ with ea_; subst ea_)); subst ec_; clear en_)); have GB32 := Aside0.mk gb32; have GG32 := Aside0.mk HG32; clear gb32 gl32 HG32; obtain ⟨ce32, hcl32, hM32, hcc32, hfr32⟩ := Kd.Q_elem HO_7.out z83 (0 : Int) p32 q32; obtain rfl := k83_openM hM32; have hx32_0 : w33.cell? ⟨go32, oo32 + (0 : Int).toNat * 6, none⟩ = some (.string ((rd_T83 x7_1 0).f0.f0)) := hcc32 0 _ rfl; have hx32_1 : w33.cell? ⟨go32, oo32 + (0 : Int).toNat * 6 + 1, none⟩ = some (.int .i64 ((rd_T83 x7_1 0).f0.f1)) := hcc32 1 _ rfl; have hx32_2 : w33.cell? ⟨go32, oo32 + (0 : Int).toNat * 6 + 2, none⟩ = some (.int .i64 ((rd_T83 x7_1 0).f0.f2)) := hcc32 2 _ rfl; have hx32_3 : w33.cell? ⟨go32, oo32 + (0 : Int).toNat * 6 + 3, none⟩ = some (.string ((rd_T83 x7_1 0).f0.f3)) := hcc32 3 _ rfl; have hx32_4 : w33.cell? ⟨go32, oo32 + (0 : Int).toNat * 6 + 4, none⟩ = some (.int .i64 ((rd_T83 x7_1 0).f0.f4)) := hcc32 4 _ rfl; have hx32_5 : w33.cell? ⟨go32, oo32 + (0 : Int).toNat * 6 + 5, none⟩ = some (.int .i64 ((rd_T83 x7_1 0).f1)) := hcc32 5 _ rfl; have hf32_0 : w33.frozen? ⟨go32, oo32 + (0 : Int).toNat * 6, none⟩ = false := hfr32 0; have hf32_1 : w33.frozen? ⟨go32, oo32 + (0 : Int).toNat * 6 + 1, none⟩ = false := hfr32 1; have hf32_2 : w33.frozen? ⟨go32, oo32 + (0 : Int).toNat * 6 + 2, none⟩ = false := hfr32 2; have hf32_3 : w33.frozen? ⟨go32, oo32 + (0 : Int).toNat * 6 + 3, none⟩ = false := hfr32 3; have hf32_4 : w33.frozen? ⟨go32, oo32 + (0 : Int).toNat * 6 + 4, none⟩ = false := hfr32 4; have hf32_5 : w33.frozen? ⟨go32, oo32 + (0 : Int).toNat * 6 + 5, none⟩ = false := hfr32 5; clear hcl32 hcc32 hfr32 hM32; (try rw [show ((0 : Int)).toNat = 0 from rfl] at hx32_0); (try simp only [Nat.reduceMul, Nat.zero_mul, Nat.zero_add, Nat.reduceAdd] at hx32_0); (try rw [show ((0 : Int)).toNat = 0 from rfl] at hf32_0); (try simp only [Nat.reduceMul, Nat.zero_mul, Nat.zero_add, Nat.reduceAdd] at hf32_0); (try rw [show ((0 : Int)).toNat = 0 from rfl] at hx32_1); (try simp only [Nat.reduceMul, Nat.zero_mul, Nat.zero_add, Nat.reduceAdd] at hx32_1); (try rw [show ((0 : Int)).toNat = 0 from rfl] at hf32_1); (try simp only [Nat.reduceMul, Nat.zero_mul, Nat.zero_add, Nat.reduceAdd] at hf32_1); (try rw [show ((0 : Int)).toNat = 0 from rfl] at hx32_2); (try simp only [Nat.reduceMul, Nat.zero_mul, Nat.zero_add, Nat.reduceAdd] at hx32_2); (try rw [show ((0 : Int)).toNat = 0 from rfl] at hf32_2); (try simp only [Nat.reduceMul, Nat.zero_mul, Nat.zero_add, Nat.reduceAdd] at hf32_2); (try rw [show ((0 : Int)).toNat = 0 from rfl] at hx32_3); (try simp only [Nat.reduceMul, Nat.zero_mul, Nat.zero_add, Nat.reduceAdd] at hx32_3); (try rw [show ((0 : Int)).toNat = 0 from rfl] at hf32_3); (try simp only [Nat.reduceMul, Nat.zero_mul, Nat.zero_add, Nat.reduceAdd] at hf32_3); (try rw [show ((0 : Int)).toNat = 0 from rfl] at hx32_4); (try simp only [Nat.reduceMul, Nat.zero_mul, Nat.zero_add, Nat.reduceAdd] at hx32_4); (try rw [show ((0 : Int)).toNat = 0 from rfl] at hf32_4); (try simp only [Nat.reduceMul, Nat.zero_mul, Nat.zero_add, Nat.reduceAdd] at hf32_4); (try rw [show ((0 : Int)).toNat = 0 from rfl] at hx32_5); (try simp only [Nat.reduceMul, Nat.zero_mul, Nat.zero_add, Nat.reduceAdd] at hx32_5); (try rw [show ((0 : Int)).toNat = 0 from rfl] at hf32_5); (try simp only [Nat.reduceMul, Nat.zero_mul, Nat.zero_add, Nat.reduceAdd] at hf32_5); replace p32 := eq_true p32; replace q32 := eq_true q32; have HX34 := Aside0.mk (show Kd.Q k83 83 w33 w.heap.size (fun _ => True) (.slice (some ⟨go32, oo32, none⟩) x7_1.length co32) x7_1 from (z_87)); obtain ⟨ce34, hcl34, hM34, hcc34, hfr34⟩ := Kd.Q_elem HX34.out z83 (0 : Int) (z_6) (z_88); obtain rfl := k83_openM hM34; have HP34 := Kd.Q_seg HX34.out (0 : Int) (z_6) (z_88) (seg := [.int .i64 (-1)]) (j := 5) hcl34 hcc34 (show 6 ≤ 6 from z_5) (x' := (⟨(⟨(rd_T83 x7_1 0).f0.f0, (rd_T83 x7_1 0).f0.f1, (rd_T83 x7_1 0).f0.f2, (rd_T83 x7_1 0).f0.f3, (rd_T83 x7_1 0).f0.f4⟩ : S26), (-1)⟩ : S83)) (k83_mkM _ _ _ (⟨(⟨(rd_T83 x7_1 0).f0.f0, (rd_T83 x7_1 0).f0.f1, (rd_T83 x7_1 0).f0.f2, (rd_T83 x7_1 0).f0.f3, (rd_T83 x7_1 0).f0.f4⟩ : S26), (-1)⟩ : S83) ) (fun _ hk => hk); have hx34_5 := hcc34 5 _ rfl; (try simp only [show (k83).sz = 6 from rfl, Nat.mul_one, Nat.add_zero] at hx34_5); (try rw [show ((0 : Int)).toNat = 0 from rfl] at hx34_5); (try simp only [Nat.reduceMul, Nat.zero_mul, Nat.zero_add, Nat.reduceAdd] at hx34_5); have hf34_5 := hfr34 5; (try simp only [show (k83).sz = 6 from rfl, Nat.mul_one, Nat.add_zero] at hf34_5); (try rw [show ((0 : Int)).toNat = 0 from rfl] at hf34_5); (try simp only [Nat.reduceMul, Nat.zero_mul, Nat.zero_add, Nat.reduceAdd] at hf34_5); clear hcl34 hcc34 hfr34 hM34) | ((with_reducible refine gate_store (t := 3) (p := 53) rfl ?_); refine store_event (t := 3) (p := 53) (v := ?vo_w35) (w1 := (w33.setCell ⟨go32, oo32 + 5, none⟩ (.int .i64 (-1)))) ?hg ?ho ?hn ?hr ?_; (case ho => rfl); (case hg => rfl); (case hn => rfl); (case hr => exact z_9); intro w35 hw; have hg : w33.grownBy w35 (some go32) := (by rw [hw]; exact HP34.2); have hp_ : Kd.Q k83 83 w35 w.heap.size (fun _ => True) (.slice (some ⟨go32, oo32, none⟩) x7_1.length co32) y312 := (by rw [hw, Ny312.out]; exact HP34.1); clear HP34; have n0_ := Aside0.mk (hp_); have n1_ := Aside0.mk (IsS96.grown (z_32) hg (IsS96.own_neQ HI0.out HO_7.out (z_5))); have n2_ := Aside0.mk ((by rw [hw]; exact below_set (HB.out) (Nat.le_trans HL.out GB32.out) : Below w0.heap.size w0 w35)); have n3_ := Aside0.mk (KeepBut.trans (z_31) (KeepBut.of_grown hg g) (Kd.Q_base2 HO_7.out)); clear HO_7; clear HI0; clear HB; clear HK; have HO_7 := n0_; have HI0 := n1_; have HB := n2_; have HK := n3_; clear n0_ n1_ n2_ n3_; clear hg hw hp_))
          go_ret
          exact ⟨_, z_13, z_87, z_32, z_33, z_31⟩
         ·rw [if_neg c31] at H
          exact absurd H (z_12)
        ·rw [if_neg c30] at H
         have c30b0 : (t306 == 1) = false := beq_eq_false_iff_ne.mpr c30
         have c30b1 : (t306 != 1) = true := bne_iff_ne.mpr c30
         by_cases c36 : 0 < (x7_1.length : Int)
         ·rw [if_pos c36] at H
          have c36b0 : decide (0 < (x7_1.length : Int)) = true := decide_eq_true c36
          have c36b1 : decide (0 < x7_1.length) = true := decide_eq_true (z_6)
          clear c36
          obtain ⟨y313, hy313⟩ : ∃ y_ : List (S83), y_ = (x7_1.set (0 : Int).toNat (⟨(⟨(⟨#[]⟩ : ByteArray), (rd_T83 x7_1 0).f0.f1, (rd_T83 x7_1 0).f0.f2, (rd_T83 x7_1 0).f0.f3, (rd_T83 x7_1 0).f0.f4⟩ : S26), (rd_T83 x7_1 0).f1⟩ : S83)) := ⟨_, rfl⟩
          replace H : (some (y313, t307)) = some (r1, r2) := by first | (rw [hy313]; with_reducible exact H) | (have H2_ := (Option.bind_some _ _).symm.trans H; rw [hy313]; with_reducible exact H2_) | (have H2_ := (Option.bind_some _ _).symm.trans H; with_reducible exact H2_) | with_reducible exact H | (rw [hy313]; exact H) | exact H
          have Ny313 := Aside0.mk hy313
          clear hy313
          simp only [Option.some.injEq, Prod.mk.injEq] at H
          obtain ⟨rfl, rfl⟩ := H
          go_wp2_with (first | ((with_reducible refine gate_callee (f := 69) rfl ?_); refine goesL_ (some 36) rfl rfl Try.func69 (z_0) rfl #[.pointer (some ⟨g, 0, none⟩), .int .i64 3] rfl (z_14) ?_; (with_reducible refine (spec_l20Rd_pick.calls kj15 g s0_0 x1001_15 3 t306 t307 w0 _ ?side1 ?side2 A23.out).mono ?_); (case side1 => exact z_32); (case side2 => exact z_33); rintro e w38 ⟨rfl, hi, hb, hk⟩; refine ⟨_, rfl, ?_⟩; have n0_ := Aside0.mk (Kd.Q_mono (Kd.Q_keep (IsS96.apartQ (show IsS96 w0 _ g s0_0 x1001_15 from z_32) (z_87) (z_5)) hk (fun _ h => h.2)) (fun _ h => h.1)); have n1_ := Aside0.mk (KeepBut.trans (z_31) hk (.inl rfl)); have n2_ := Aside0.mk (hb); have n3_ := Aside0.mk (hi); clear HO_7; clear HK; clear HB; clear HI0; have HO_7 := n0_; have HK := n1_; have HB := n2_; have HI0 := n3_; clear n0_ n1_ n2_ n3_; (try clear hb); (try clear hb2); (try clear hk); (try clear hi); have p37 : 0 ≤ (0 : Int) := (z_6); have q37 : (0 : Int) < ((x7_1.length : Int) : Int) := of_decide_eq_true (z_7); have qi37 : (0 < x7_1.length) = True := eq_true (z_6); obtain ⟨go37, oo37, co37, eo37, gb37, gl37, cl37, HG37⟩ := Kd.Q_form HO_7.out (z_6); (first | cases eo37 | (injection eo37 with ea_ en_ ec_; (first | subst ea_ | (injection ea_ with ea_; subst ea_)); subst ec_; clear en_)); have GB37 := Aside0.mk gb37; have GG37 := Aside0.mk HG37; clear gb37 gl37 HG37; obtain ⟨ce37, hcl37, hM37, hcc37, hfr37⟩ := Kd.Q_elem HO_7.out z83 (0 : Int) p37 q37; obtain rfl := k83_openM hM37; have hx37_0 : w38.cell? ⟨go37, oo37 + (0 : Int).toNat * 6, none⟩ = some (.string ((rd_T83 x7_1 0).f0.f0)) := hcc37 0 _ rfl; have hx37_1 : w38.cell? ⟨go37, oo37 + (0 : Int).toNat * 6 + 1, none⟩ = some (.int .i64 ((rd_T83 x7_1 0).f0.f1)) := hcc37 1 _ rfl; have hx37_2 : w38.cell? ⟨go37, oo37 + (0 : Int).toNat * 6 + 2, none⟩ = some (.int .i64 ((rd_T83 x7_1 0).f0.f2)) := hcc37 2 _ rfl; have hx37_3 : w38.cell? ⟨go37, oo37 + (0 : Int).toNat * 6 + 3, none⟩ = some (.string ((rd_T83 x7_1 0).f0.f3)) := hcc37 3 _ rfl; have hx37_4 : w38.cell? ⟨go37, oo37 + (0 : Int).toNat * 6 + 4, none⟩ = some (.int .i64 ((rd_T83 x7_1 0).f0.f4)) := hcc37 4 _ rfl; have hx37_5 : w38.cell? ⟨go37, oo37 + (0 : Int).toNat * 6 + 5, none⟩ = some (.int .i64 ((rd_T83 x7_1 0).f1)) := hcc37 5 _ rfl; have hf37_0 : w38.frozen? ⟨go37, oo37 + (0 : Int).toNat * 6, none⟩ = false := hfr37 0; have hf37_1 : w38.frozen? ⟨go37, oo37 + (0 : Int).toNat * 6 + 1, none⟩ = false := hfr37 1; have hf37_2 : w38.frozen? ⟨go37, oo37 + (0 : Int).toNat * 6 + 2, none⟩ = false := hfr37 2; have hf37_3 : w38.frozen? ⟨go37, oo37 + (0 : Int).toNat * 6 + 3, none⟩ = false := hfr37 3; have hf37_4 : w38.frozen? ⟨go37, oo37 + (0 : Int).toNat * 6 + 4, none⟩ = false := hfr37 4; have hf37_5 : w38.frozen? ⟨go37, oo37 + (0 : Int).toNat * 6 + 5, none⟩ = false := hfr37 5; clear hcl37 hcc37 hfr37 hM37; (try rw [show ((0 : Int)).toNat = 0 from rfl] at hx37_0); (try simp only [Nat.reduceMul, Nat.zero_mul, Nat.zero_add, Nat.reduceAdd] at hx37_0); (try rw [show ((0 : Int)).toNat = 0 from rfl] at hf37_0); (try simp only [Nat.reduceMul, Nat.zero_mul, Nat.zero_add, Nat.reduceAdd] at hf37_0); (try rw [show ((0 : Int)).toNat = 0 from rfl] at hx37_1); (try simp only [Nat.reduceMul, Nat.zero_mul, Nat.zero_add, Nat.reduceAdd] at hx37_1); (try rw [show ((0 : Int)).toNat = 0 from rfl] at hf37_1); (try simp only [Nat.reduceMul, Nat.zero_mul, Nat.zero_add, Nat.reduceAdd] at hf37_1); (try rw [show ((0 : Int)).toNat = 0 from rfl] at hx37_2); (try simp only [Nat.reduceMul, Nat.zero_mul, Nat.zero_add, Nat.reduceAdd] at hx37_2); (try rw [show ((0 : Int)).toNat = 0 from rfl] at hf37_2); (try simp only [Nat.reduceMul, Nat.zero_mul, Nat.zero_add, Nat.reduceAdd] at hf37_2); (try rw [show ((0 : Int)).toNat = 0 from rfl] at hx37_3); (try simp only [Nat.reduceMul, Nat.zero_mul, Nat.zero_add, Nat.reduceAdd] at hx37_3); (try rw [show ((0 : Int)).toNat = 0 from rfl] at hf37_3); (try simp only [Nat.reduceMul, Nat.zero_mul, Nat.zero_add, Nat.reduceAdd] at hf37_3); (try rw [show ((0 : Int)).toNat = 0 from rfl] at hx37_4); (try simp only [Nat.reduceMul, Nat.zero_mul, Nat.zero_add, Nat.reduceAdd] at hx37_4); (try rw [show ((0 : Int)).toNat = 0 from rfl] at hf37_4); (try simp only [Nat.reduceMul, Nat.zero_mul, Nat.zero_add, Nat.reduceAdd] at hf37_4); (try rw [show ((0 : Int)).toNat = 0 from rfl] at hx37_5); (try simp only [Nat.reduceMul, Nat.zero_mul, Nat.zero_add, Nat.reduceAdd] at hx37_5); (try rw [show ((0 : Int)).toNat = 0 from rfl] at hf37_5); (try simp only [Nat.reduceMul, Nat.zero_mul, Nat.zero_add, Nat.reduceAdd] at hf37_5); replace p37 := eq_true p37; replace q37 := eq_true q37; have HX39 := Aside0.mk (show Kd.Q k83 83 w38 w.heap.size (fun _ => True) (.slice (some ⟨go37, oo37, none⟩) x7_1.length co37) x7_1 from (z_87)); obtain ⟨ce39, hcl39, hM39, hcc39, hfr39⟩ := Kd.Q_elem HX39.out z83 (0 : Int) (z_6) (z_88); obtain rfl := k83_openM hM39; have HP39 := Kd.Q_seg HX39.out (0 : Int) (z_6) (z_88) (seg := [.string (⟨#[]⟩ : ByteArray)]) (j := 0) hcl39 hcc39 (show 1 ≤ 6 from z_5) (x' := (⟨(⟨(⟨#[]⟩ : ByteArray), (rd_T83 x7_1 0).f0.f1, (rd_T83 x7_1 0).f0.f2, (rd_T83 x7_1 0).f0.f3, (rd_T83 x7_1 0).f0.f4⟩ : S26), (rd_T83 x7_1 0).f1⟩ : S83)) (k83_mkM _ _ _ (⟨(⟨(⟨#[]⟩ : ByteArray), (rd_T83 x7_1 0).f0.f1, (rd_T83 x7_1 0).f0.f2, (rd_T83 x7_1 0).f0.f3, (rd_T83 x7_1 0).f0.f4⟩ : S26), (rd_T83 x7_1 0).f1⟩ : S83) ) (fun _ hk => hk); have hx39_0 := hcc39 0 _ rfl; (try simp only [show (k83).sz = 6 from rfl, Nat.mul_one, Nat.add_zero] at hx39_0); (try rw [show ((0 : Int)).toNat = 0 from rfl] at hx39_0); (try simp only [Nat.reduceMul, Nat.zero_mul, Nat.zero_add, Nat.reduceAdd] at hx39_0); have hf39_0 := hfr39 0; (try simp only [show (k83).sz = 6 from rfl, Nat.mul_one, Nat.add_zero] at hf39_0); (try rw [show ((0 : Int)).toNat = 0 from rfl] at hf39_0); (try simp only [Nat.reduceMul, Nat.zero_mul, Nat.zero_add, Nat.reduceAdd] at hf39_0); clear hcl39 hcc39 hfr39 hM39; (try simp only [Nat.add_zero] at hx39_0 hf39_0)) | ((with_reducible refine gate_store (t := 9) (p := 40) rfl ?_); refine store_event (t := 9) (p := 40) (v := ?vo_w40) (w1 := (w38.setCell ⟨go37, oo37, none⟩ (.string (⟨#[]⟩ : ByteArray)))) ?hg ?ho ?hn ?hr ?_; (case ho => rfl); (case hg => rfl); (case hn => rfl); (case hr => exact z_9); intro w40 hw; have hg : w38.grownBy w40 (some go37) := (by rw [hw]; exact HP39.2); have hp_ : Kd.Q k83 83 w40 w.heap.size (fun _ => True) (.slice (some ⟨go37, oo37, none⟩) x7_1.length co37) y313 := (by rw [hw, Ny313.out]; exact HP39.1); clear HP39; have n0_ := Aside0.mk (hp_); have n1_ := Aside0.mk (IsS96.grown (z_32) hg (IsS96.own_neQ HI0.out HO_7.out (z_5))); have n2_ := Aside0.mk ((by rw [hw]; exact below_set (HB.out) (Nat.le_trans HL.out GB37.out) : Below w0.heap.size w0 w40)); have n3_ := Aside0.mk (KeepBut.trans (z_31) (KeepBut.of_grown hg g) (Kd.Q_base2 HO_7.out)); clear HO_7; clear HI0; clear HB; clear HK; have HO_7 := n0_; have HI0 := n1_; have HB := n2_; have HK := n3_; clear n0_ n1_ n2_ n3_; clear hg hw hp_))
          go_ret
          exact ⟨_, z_13, z_87, z_32, z_33, z_31⟩
         ·rw [if_neg c36] at H
          exact absurd H (z_12)
      ·replace c22 := Bool.eq_false_iff.mpr c22
       subst c22
       rw [if_neg (show ¬ (false = true) by decide)] at H
       simp only [Option.some.injEq, Prod.mk.injEq] at H
       obtain ⟨rfl, rfl⟩ := H
       go_wp2
       go_ret
       exact ⟨_, z_13, z_87, z_32, z_33, z_31⟩

/-! ### spec_DrawKeptAsk: function 47 -/
def spec_DrawKeptAsk.f (k : Nat) (l0 : List Int) : Option ((List (S83)) × (List (S26)) × ByteArray × Int) := (spec_l20Open.f l0).bind fun bt314 => ((spec_l20Names.f k bt314.1 bt314.2 20).bind fun bt317 => ((spec_l20Kept.f k bt314.1 bt317.2 bt317.1 15).bind fun bt321 => ((spec_l20Text.f k bt314.1 bt321.2).bind fun bt325 => ((spec_l20Rd_pick.f k bt314.1 bt325.2 40).bind fun bt327 => (some (bt321.1, bt317.1, bt325.1, bt327.1))))))
theorem spec_DrawKeptAsk.mono : ∀ a0 k, LeO (spec_DrawKeptAsk.f k a0) (spec_DrawKeptAsk.f (k + 1) a0) := by
 intro a0 k
 unfold spec_DrawKeptAsk.f
 repeat' first
   | (with_reducible exact spec_l20Kept.mono _ _ _ _ _)
   | (with_reducible exact spec_l20Names.mono _ _ _ _)
   | (with_reducible exact spec_l20Rd_pick.mono _ _ _ _)
   | (with_reducible exact spec_l20Text.mono _ _ _)
   | (with_reducible exact LeO.refl _)
   | (with_reducible exact LeO.none _)
   | (with_reducible refine LeO.ite ?_ ?_)
   | (with_reducible refine LeO.bind ?_ (fun _ => ?_))
   | exact spec_l20Kept.mono _ _ _ _ _
   | exact spec_l20Names.mono _ _ _ _
   | exact spec_l20Rd_pick.mono _ _ _ _
   | exact spec_l20Text.mono _ _ _
   | exact LeO.none _
   | refine LeO.ite ?_ ?_
   | refine LeO.bind ?_ (fun _ => ?_)
set_option maxHeartbeats 8000000 in
set_option maxRecDepth 100000 in
theorem spec_DrawKeptAsk.calls (k : Nat) (A0 : Option Addr) (c0 : Nat) (l0 : List Int) (r1 : List (S83)) (r2 : List (S26)) (r3 : ByteArray) (r4 : Int) (w : World) (hr0 : Kd.C (Kd.int .u8) w A0 l0.length l0) (hc0 : l0.length ≤ c0) (h : spec_DrawKeptAsk.f k l0 = some (r1, r2, r3, r4)) :
  Calls Try.prog 47 #[.slice A0 l0.length c0] w fun e w' => ∃ v0_ v1_ : Value, e = .returned (.tuple #[v0_, v1_, .string r3, .int .i64 r4]) ∧ Kd.Q k83 83 w' w.heap.size (fun _ => True) v0_ r1 ∧ Kd.R k26 26 w' w.heap.size (fun _ => True) v1_ r2 ∧ Below w.heap.size w w' := by
 have HR0 := Aside0.mk hr0
 have HC0 := Aside0.mk hc0
 clear hr0 hc0
 have HB := Aside0.mk (Below.refl w.heap.size w)
 have H : ((spec_l20Open.f l0).bind fun bt314 => ((spec_l20Names.f k bt314.1 bt314.2 20).bind fun bt317 => ((spec_l20Kept.f k bt314.1 bt317.2 bt317.1 15).bind fun bt321 => ((spec_l20Text.f k bt314.1 bt321.2).bind fun bt325 => ((spec_l20Rd_pick.f k bt314.1 bt325.2 40).bind fun bt327 => (some (bt321.1, bt317.1, bt325.1, bt327.1))))))) = some (r1, r2, r3, r4) := h
 clear h
 replace H := Option.bind_eq_some_iff.mp H
 obtain ⟨⟨t314, t315⟩, A20, H⟩ := H
 replace H : ((spec_l20Names.f k t314 t315 20).bind fun bt317 => ((spec_l20Kept.f k t314 bt317.2 bt317.1 15).bind fun bt321 => ((spec_l20Text.f k t314 bt321.2).bind fun bt325 => ((spec_l20Rd_pick.f k t314 bt325.2 40).bind fun bt327 => (some (bt321.1, bt317.1, bt325.1, bt327.1)))))) = some (r1, r2, r3, r4) := H
 have A2 := Aside0.mk A20
 clear A20
 replace H := Option.bind_eq_some_iff.mp H
 obtain ⟨⟨t317, t320⟩, A30, H⟩ := H
 replace H : ((spec_l20Kept.f k t314 t320 t317 15).bind fun bt321 => ((spec_l20Text.f k t314 bt321.2).bind fun bt325 => ((spec_l20Rd_pick.f k t314 bt325.2 40).bind fun bt327 => (some (bt321.1, t317, bt325.1, bt327.1))))) = some (r1, r2, r3, r4) := H
 have A3 := Aside0.mk A30
 clear A30
 replace H := Option.bind_eq_some_iff.mp H
 obtain ⟨⟨t321, t324⟩, A40, H⟩ := H
 replace H : ((spec_l20Text.f k t314 t324).bind fun bt325 => ((spec_l20Rd_pick.f k t314 bt325.2 40).bind fun bt327 => (some (t321, t317, bt325.1, bt327.1)))) = some (r1, r2, r3, r4) := H
 have A4 := Aside0.mk A40
 clear A40
 replace H := Option.bind_eq_some_iff.mp H
 obtain ⟨⟨t325, t326⟩, A50, H⟩ := H
 replace H : ((spec_l20Rd_pick.f k t314 t326 40).bind fun bt327 => (some (t321, t317, t325, bt327.1))) = some (r1, r2, r3, r4) := H
 have A5 := Aside0.mk A50
 clear A50
 replace H := Option.bind_eq_some_iff.mp H
 obtain ⟨⟨t327, t328⟩, A60, H⟩ := H
 replace H : (some (t321, t317, t325, t327)) = some (r1, r2, r3, r4) := H
 have A6 := Aside0.mk A60
 clear A60
 simp only [Option.some.injEq, Prod.mk.injEq] at H
 obtain ⟨rfl, rfl, rfl, rfl⟩ := H
 go_enter Try.func47, Try.ntmps47
 go_wp2_with (first | ((with_reducible refine gate_callee (f := 60) rfl ?_); refine goesL_ (some 9) rfl rfl Try.func60 (z_0) rfl #[.slice A0 l0.length c0] rfl (z_14) ?_; (with_reducible refine (spec_l20Open.calls _ _ l0 t314 t315 w _ ?side1 ?side2 ?side3 A2.out).mono ?_); (case side1 => exact z_8); (case side2 => exact HR0.out); (case side3 => exact HC0.out); rintro e w7 ⟨g316, rfl, hi, hb, hb2⟩; refine ⟨_, rfl, ?_⟩; have n0_ := Aside0.mk (hb); have n1_ := Aside0.mk (hi); clear HB; have HB := n0_; have HI316 := n1_; clear n0_ n1_; (try clear hb); (try clear hb2); (try clear hk); (try clear hi)) | ((with_reducible refine gate_callee (f := 62) rfl ?_); refine goesL_ (some 11) rfl rfl Try.func62 (z_0) rfl #[.pointer (some ⟨g316, 0, none⟩), .int .i64 20] rfl (z_14) ?_; (with_reducible refine (spec_l20Names.calls k g316 t314 t315 20 t317 t320 w _ ?side1 ?side2 A3.out).mono ?_); (case side1 => exact z_89); (case side2 => exact z_90); rintro e w8 ⟨v318, rfl, ho0, hi, hb, hk⟩; refine ⟨_, rfl, ?_⟩; have n0_ := Aside0.mk (Kd.R_lower ho0 (below_size (z_90))); have n1_ := Aside0.mk (hb); have n2_ := Aside0.mk (hi); clear HB; clear HI316; have HO319 := n0_; have HB := n1_; have HI316 := n2_; clear n0_ n1_ n2_; (try clear hb); (try clear hb2); (try clear hk); (try clear hi); (try clear ho0); obtain ⟨Ao9, co9, eo9⟩ := Kd.R_slice HO319.out; subst eo9) | ((with_reducible refine gate_callee (f := 72) rfl ?_); refine goesL_ (some 14) rfl rfl Try.func72 (z_0) rfl #[.pointer (some ⟨g316, 0, none⟩), .slice Ao9 t317.length co9, .int .i64 15] rfl (z_14) ?_; (with_reducible refine (spec_l20Kept.calls k g316 t314 t320 _ _ t317 15 t321 t324 w _ ?side1 ?side2 ?side3 ?side4 A4.out).mono ?_); (case side1 => exact z_89); (case side2 => exact z_90); (case side3 => exact Kd.C_foot_own (IsS96.apart (show IsS96 w _ g316 t314 t320 from z_89) (z_91) (z_5)) (fun _ h_ => h_.2)); (case side4 => exact (Kd.R_reads' HO319.out).2.1); rintro e w10 ⟨v322, rfl, ho0, hi, hb, hk⟩; refine ⟨_, rfl, ?_⟩; have n0_ := Aside0.mk (Kd.R_mono (Kd.R_keep (IsS96.apart (show IsS96 w _ g316 t314 t320 from z_89) (z_91) (z_5)) hk (fun _ h => h.2)) (fun _ h => h.1)); have n1_ := Aside0.mk (Kd.Q_lower ho0 (below_size (z_90))); have n2_ := Aside0.mk (hb); have n3_ := Aside0.mk (hi); clear HO319; clear HB; clear HI316; have HO319 := n0_; have HO323 := n1_; have HB := n2_; have HI316 := n3_; clear n0_ n1_ n2_ n3_; (try clear hb); (try clear hb2); (try clear hk); (try clear hi); (try clear ho0)) | ((with_reducible refine gate_callee (f := 68) rfl ?_); refine goesL_ (some 17) rfl rfl Try.func68 (z_0) rfl #[.pointer (some ⟨g316, 0, none⟩)] rfl (z_14) ?_; (with_reducible refine (spec_l20Text.calls k g316 t314 t324 t325 t326 w _ ?side1 ?side2 A5.out).mono ?_); (case side1 => exact z_89); (case side2 => exact z_90); rintro e w11 ⟨rfl, hi, hb, hk⟩; refine ⟨_, rfl, ?_⟩; have n0_ := Aside0.mk (Kd.R_mono (Kd.R_keep (IsS96.apart (show IsS96 w _ g316 t314 t324 from z_89) (z_91) (z_5)) hk (fun _ h => h.2)) (fun _ h => h.1)); have n1_ := Aside0.mk (Kd.Q_mono (Kd.Q_keep (IsS96.apartQ (show IsS96 w _ g316 t314 t324 from z_89) (z_92) (z_5)) hk (fun _ h => h.2)) (fun _ h => h.1)); have n2_ := Aside0.mk (hb); have n3_ := Aside0.mk (hi); clear HO319; clear HO323; clear HB; clear HI316; have HO319 := n0_; have HO323 := n1_; have HB := n2_; have HI316 := n3_; clear n0_ n1_ n2_ n3_; (try clear hb); (try clear hb2); (try clear hk); (try clear hi)) | ((with_reducible refine gate_callee (f := 69) rfl ?_); refine goesL_ (some 19) rfl rfl Try.func69 (z_0) rfl #[.pointer (some ⟨g316, 0, none⟩), .int .i64 40] rfl (z_14) ?_; (with_reducible refine (spec_l20Rd_pick.calls k g316 t314 t326 40 t327 t328 w _ ?side1 ?side2 A6.out).mono ?_); (case side1 => exact z_89); (case side2 => exact z_90); rintro e w12 ⟨rfl, hi, hb, hk⟩; refine ⟨_, rfl, ?_⟩; have n0_ := Aside0.mk (Kd.R_mono (Kd.R_keep (IsS96.apart (show IsS96 w _ g316 t314 t326 from z_89) (z_91) (z_5)) hk (fun _ h => h.2)) (fun _ h => h.1)); have n1_ := Aside0.mk (Kd.Q_mono (Kd.Q_keep (IsS96.apartQ (show IsS96 w _ g316 t314 t326 from z_89) (z_92) (z_5)) hk (fun _ h => h.2)) (fun _ h => h.1)); have n2_ := Aside0.mk (hb); have n3_ := Aside0.mk (hi); clear HO319; clear HO323; clear HB; clear HI316; have HO319 := n0_; have HO323 := n1_; have HB := n2_; have HI316 := n3_; clear n0_ n1_ n2_ n3_; (try clear hb); (try clear hb2); (try clear hk); (try clear hi)))
 refine bodyPost_ret (results_list (rs := [.tmp 2, .tmp 3, .tmp 4, .tmp 5]) rfl (z_12) (.tmp (.tmp (.tmp (.tmp .nil))))) rfl ?_
 exact ⟨_, _, z_13, z_92, z_91, z_90⟩

/-! ### spec_DrawKeptFind: function 48 -/
def spec_DrawKeptFind.f (k : Nat) (l0 : List Int) : Option ((List (S83)) × (List (S26)) × ByteArray × Int) := (spec_DrawKeptAsk.f k l0).bind fun bt329 => (some (bt329.1, bt329.2.1, bt329.2.2.1, bt329.2.2.2))
theorem spec_DrawKeptFind.mono : ∀ a0 k, LeO (spec_DrawKeptFind.f k a0) (spec_DrawKeptFind.f (k + 1) a0) := by
 intro a0 k
 unfold spec_DrawKeptFind.f
 repeat' first
   | (with_reducible exact spec_DrawKeptAsk.mono _ _)
   | (with_reducible exact LeO.refl _)
   | (with_reducible exact LeO.none _)
   | (with_reducible refine LeO.ite ?_ ?_)
   | (with_reducible refine LeO.bind ?_ (fun _ => ?_))
   | exact spec_DrawKeptAsk.mono _ _
   | exact LeO.none _
   | refine LeO.ite ?_ ?_
   | refine LeO.bind ?_ (fun _ => ?_)
set_option maxHeartbeats 8000000 in
set_option maxRecDepth 100000 in
theorem spec_DrawKeptFind.calls (k : Nat) (A0 : Option Addr) (c0 : Nat) (l0 : List Int) (r1 : List (S83)) (r2 : List (S26)) (r3 : ByteArray) (r4 : Int) (w : World) (hr0 : Kd.C (Kd.int .u8) w A0 l0.length l0) (hc0 : l0.length ≤ c0) (h : spec_DrawKeptFind.f k l0 = some (r1, r2, r3, r4)) :
  Calls Try.prog 48 #[.slice A0 l0.length c0] w fun e w' => ∃ v0_ v1_ : Value, e = .returned (.tuple #[v0_, v1_, .string r3, .int .i64 r4]) ∧ Kd.Q k83 83 w' w.heap.size (fun _ => True) v0_ r1 ∧ Kd.R k26 26 w' w.heap.size (fun _ => True) v1_ r2 ∧ Below w.heap.size w w' := by
 have HR0 := Aside0.mk hr0
 have HC0 := Aside0.mk hc0
 clear hr0 hc0
 have HB := Aside0.mk (Below.refl w.heap.size w)
 have H : ((spec_DrawKeptAsk.f k l0).bind fun bt329 => (some (bt329.1, bt329.2.1, bt329.2.2.1, bt329.2.2.2))) = some (r1, r2, r3, r4) := h
 clear h
 replace H := Option.bind_eq_some_iff.mp H
 obtain ⟨⟨t329, t330, t331, t332⟩, A20, H⟩ := H
 replace H : (some (t329, t330, t331, t332)) = some (r1, r2, r3, r4) := H
 have A2 := Aside0.mk A20
 clear A20
 simp only [Option.some.injEq, Prod.mk.injEq] at H
 obtain ⟨rfl, rfl, rfl, rfl⟩ := H
 go_enter Try.func48, Try.ntmps48
 go_wp2_with (first | ((with_reducible refine gate_callee (f := 47) rfl ?_); refine goesL_ (some 7) rfl rfl Try.func47 (z_0) rfl #[.slice A0 l0.length c0] rfl (z_14) ?_; (with_reducible refine (spec_DrawKeptAsk.calls k _ _ l0 t329 t330 t331 t332 _ ?side1 ?side2 A2.out).mono ?_); (case side1 => exact z_93); (case side2 => exact HC0.out); rintro e w3 ⟨v333, v335, rfl, ho0, ho1, hb⟩; refine ⟨_, rfl, ?_⟩; have n0_ := Aside0.mk (Kd.Q_lower ho0 (below_size (z_8))); have n1_ := Aside0.mk (Kd.R_lower ho1 (below_size (z_8))); have n2_ := Aside0.mk (below_step (z_8) hb); clear HB; have HO334 := n0_; have HO336 := n1_; have HB := n2_; clear n0_ n1_ n2_; (try clear hb); (try clear hb2); (try clear hk); (try clear hi); (try clear ho0); (try clear ho1)))
 refine bodyPost_ret (results_list (rs := [.tmp 2, .tmp 3, .tmp 4, .tmp 5]) rfl (z_12) (.tmp (.tmp (.tmp (.tmp .nil))))) rfl ?_
 exact ⟨_, _, z_13, by (with_reducible repeat (first | apply Kd.Q_alloc | apply Kd.Q_drewN | apply Kd.Q_drew)); exact HO334.out, by (with_reducible repeat (first | apply Kd.R_alloc | apply Kd.R_drewN | apply Kd.R_drew)); exact HO336.out, z_8⟩

/-! ### impl_keptOk: function 73 -/
def impl_keptOk.f (k : Nat) (l0 : List (S83)) (l1 : List (S26)) (a2 : ByteArray) (a3 : Int) : Option (Bool) := (impl_KeptOk.f k l0).bind fun t337 => (if t337 = true then ((impl_NamesOk.f k l1).bind fun t338 => (if t338 = true then ((impl_textOk.f k a2).bind fun t339 => (if t339 = true then ((impl_in.f a3 0 900000).bind fun t340 => (some t340)) else (some false))) else (some false))) else (some false))
theorem impl_keptOk.mono : ∀ a0 a1 a2 a3 k, LeO (impl_keptOk.f k a0 a1 a2 a3) (impl_keptOk.f (k + 1) a0 a1 a2 a3) := by
 intro a0 a1 a2 a3 k
 unfold impl_keptOk.f
 repeat' first
   | (with_reducible exact impl_KeptOk.mono _ _)
   | (with_reducible exact impl_NamesOk.mono _ _)
   | (with_reducible exact impl_textOk.mono _ _)
   | (with_reducible exact LeO.refl _)
   | (with_reducible exact LeO.none _)
   | (with_reducible refine LeO.ite ?_ ?_)
   | (with_reducible refine LeO.bind ?_ (fun _ => ?_))
   | exact impl_KeptOk.mono _ _
   | exact impl_NamesOk.mono _ _
   | exact impl_textOk.mono _ _
   | exact LeO.none _
   | refine LeO.ite ?_ ?_
   | refine LeO.bind ?_ (fun _ => ?_)
set_option maxHeartbeats 8000000 in
set_option maxRecDepth 100000 in
theorem impl_keptOk.calls (k : Nat) (A0 : Option Addr) (c0 : Nat) (l0 : List (S83)) (A1 : Option Addr) (c1 : Nat) (l1 : List (S26)) (a2 : ByteArray) (a3 : Int) (r : Bool) (w : World) (hr0 : Kd.C k83 w A0 l0.length l0) (hc0 : l0.length ≤ c0) (hr1 : Kd.C k26 w A1 l1.length l1) (hc1 : l1.length ≤ c1) (h : impl_keptOk.f k l0 l1 a2 a3 = some r) :
  Calls Try.prog 73 #[.slice A0 l0.length c0, .slice A1 l1.length c1, .string a2, .int .i64 a3] w fun e w' => e = .returned (.bool r) ∧ Below w.heap.size w w' := by
 have HR0 := Aside0.mk hr0
 have HC0 := Aside0.mk hc0
 clear hr0 hc0
 have HR1 := Aside0.mk hr1
 have HC1 := Aside0.mk hc1
 clear hr1 hc1
 have HB := Aside0.mk (Below.refl w.heap.size w)
 have H : ((impl_KeptOk.f k l0).bind fun t337 => (if t337 = true then ((impl_NamesOk.f k l1).bind fun t338 => (if t338 = true then ((impl_textOk.f k a2).bind fun t339 => (if t339 = true then ((impl_in.f a3 0 900000).bind fun t340 => (some t340)) else (some false))) else (some false))) else (some false))) = some r := h
 clear h
 replace H := Option.bind_eq_some_iff.mp H
 obtain ⟨t337, A50, H⟩ := H
 have A5 := Aside0.mk A50
 clear A50
 by_cases c6 : t337 = true
 ·subst c6
  rw [if_pos rfl] at H
  replace H := Option.bind_eq_some_iff.mp H
  obtain ⟨t338, A70, H⟩ := H
  have A7 := Aside0.mk A70
  clear A70
  by_cases c8 : t338 = true
  ·subst c8
   rw [if_pos rfl] at H
   replace H := Option.bind_eq_some_iff.mp H
   obtain ⟨t339, A90, H⟩ := H
   have A9 := Aside0.mk A90
   clear A90
   by_cases c10 : t339 = true
   ·subst c10
    rw [if_pos rfl] at H
    replace H := Option.bind_eq_some_iff.mp H
    obtain ⟨t340, A110, H⟩ := H
    have A11 := Aside0.mk A110
    clear A110
    obtain rfl := Option.some.inj H
    go_enter Try.func73, Try.ntmps73
    go_wp2_with (first | ((with_reducible refine gate_callee (f := 36) rfl ?_); refine goesL_ (some 10) rfl rfl Try.func36 (z_0) rfl #[.slice A0 l0.length c0] rfl (z_14) ?_; (with_reducible refine (impl_KeptOk.calls k _ _ l0 true _ ?side1 ?side2 A5.out).mono ?_); (case side1 => exact z_93); (case side2 => exact HC0.out); rintro e w12 ⟨rfl, hb⟩; refine ⟨_, rfl, ?_⟩; have n0_ := Aside0.mk (below_step (z_8) hb); clear HB; have HB := n0_; clear n0_; (try clear hb); (try clear hb2); (try clear hk); (try clear hi)) | (go_at_call 27; (with_reducible refine (impl_NamesOk.calls k _ _ l1 true _ ?side1 ?side2 A7.out).mono ?_); (case side1 => exact z_60); (case side2 => exact HC1.out); rintro e w13 ⟨rfl, hb⟩; have n0_ := Aside0.mk (below_step (z_8) hb); clear HB; have HB := n0_; clear n0_; (try clear hb); (try clear hb2); (try clear hk); (try clear hi)) | (go_at_call 56; (with_reducible refine (impl_textOk.calls k a2 true _ A9.out).mono ?_); rintro e w14 ⟨rfl, hb⟩; have n0_ := Aside0.mk (below_step (z_8) hb); clear HB; have HB := n0_; clear n0_; (try clear hb); (try clear hb2); (try clear hk); (try clear hi)) | (go_at_call 57; (with_reducible refine (impl_in.calls a3 0 900000 t340 _ A11.out).mono ?_); rintro e w' ⟨rfl, ⟨nd, rfl⟩⟩))
    go_ret
    exact ⟨z_13, z_8⟩
   ·replace c10 := Bool.eq_false_iff.mpr c10
    subst c10
    rw [if_neg (show ¬ (false = true) by decide)] at H
    obtain rfl := Option.some.inj H
    go_enter Try.func73, Try.ntmps73
    go_wp2_with (first | ((with_reducible refine gate_callee (f := 36) rfl ?_); refine goesL_ (some 10) rfl rfl Try.func36 (z_0) rfl #[.slice A0 l0.length c0] rfl (z_14) ?_; (with_reducible refine (impl_KeptOk.calls k _ _ l0 true _ ?side1 ?side2 A5.out).mono ?_); (case side1 => exact z_93); (case side2 => exact HC0.out); rintro e w15 ⟨rfl, hb⟩; refine ⟨_, rfl, ?_⟩; have n0_ := Aside0.mk (below_step (z_8) hb); clear HB; have HB := n0_; clear n0_; (try clear hb); (try clear hb2); (try clear hk); (try clear hi)) | (go_at_call 27; (with_reducible refine (impl_NamesOk.calls k _ _ l1 true _ ?side1 ?side2 A7.out).mono ?_); (case side1 => exact z_60); (case side2 => exact HC1.out); rintro e w16 ⟨rfl, hb⟩; have n0_ := Aside0.mk (below_step (z_8) hb); clear HB; have HB := n0_; clear n0_; (try clear hb); (try clear hb2); (try clear hk); (try clear hi)) | (go_at_call 56; (with_reducible refine (impl_textOk.calls k a2 false _ A9.out).mono ?_); rintro e w17 ⟨rfl, hb⟩; have n0_ := Aside0.mk (below_step (z_8) hb); clear HB; have HB := n0_; clear n0_; (try clear hb); (try clear hb2); (try clear hk); (try clear hi)))
    go_ret
    exact ⟨z_13, z_8⟩
  ·replace c8 := Bool.eq_false_iff.mpr c8
   subst c8
   rw [if_neg (show ¬ (false = true) by decide)] at H
   obtain rfl := Option.some.inj H
   go_enter Try.func73, Try.ntmps73
   go_wp2_with (first | ((with_reducible refine gate_callee (f := 36) rfl ?_); refine goesL_ (some 10) rfl rfl Try.func36 (z_0) rfl #[.slice A0 l0.length c0] rfl (z_14) ?_; (with_reducible refine (impl_KeptOk.calls k _ _ l0 true _ ?side1 ?side2 A5.out).mono ?_); (case side1 => exact z_93); (case side2 => exact HC0.out); rintro e w18 ⟨rfl, hb⟩; refine ⟨_, rfl, ?_⟩; have n0_ := Aside0.mk (below_step (z_8) hb); clear HB; have HB := n0_; clear n0_; (try clear hb); (try clear hb2); (try clear hk); (try clear hi)) | (go_at_call 27; (with_reducible refine (impl_NamesOk.calls k _ _ l1 false _ ?side1 ?side2 A7.out).mono ?_); (case side1 => exact z_60); (case side2 => exact HC1.out); rintro e w19 ⟨rfl, hb⟩; have n0_ := Aside0.mk (below_step (z_8) hb); clear HB; have HB := n0_; clear n0_; (try clear hb); (try clear hb2); (try clear hk); (try clear hi)))
   go_ret
   exact ⟨z_13, z_8⟩
 ·replace c6 := Bool.eq_false_iff.mpr c6
  subst c6
  rw [if_neg (show ¬ (false = true) by decide)] at H
  obtain rfl := Option.some.inj H
  go_enter Try.func73, Try.ntmps73
  go_wp2_with (first | ((with_reducible refine gate_callee (f := 36) rfl ?_); refine goesL_ (some 10) rfl rfl Try.func36 (z_0) rfl #[.slice A0 l0.length c0] rfl (z_14) ?_; (with_reducible refine (impl_KeptOk.calls k _ _ l0 false _ ?side1 ?side2 A5.out).mono ?_); (case side1 => exact z_93); (case side2 => exact HC0.out); rintro e w20 ⟨rfl, hb⟩; refine ⟨_, rfl, ?_⟩; have n0_ := Aside0.mk (below_step (z_8) hb); clear HB; have HB := n0_; clear n0_; (try clear hb); (try clear hb2); (try clear hk); (try clear hi)))
  go_ret
  exact ⟨z_13, z_8⟩

/-! ### slices_Clip_86: function 86 -/
set_option maxHeartbeats 8000000 in
set_option maxRecDepth 100000 in
theorem slices_Clip_86.calls (A : Option Addr) (n c : Nat) (w : World) (hn : n ≤ c) (hm : n ≤ 9223372036854775807) :
  Calls Try.prog 86 #[.slice A n c] w fun e w' => e = .returned (.slice A n n) ∧ w' = w := by
 go_enter Try.func86, Try.ntmps86
 go_wp2
 go_ret
 exact ⟨rfl, rfl⟩

/-! ### impl_Kept_75: function 75 -/
def impl_Kept_75.f (l0 : List (S83)) : Option ((List (S83))) := if (l0.length : Int) = 0 then (some ([] : List (S83))) else ((some (([] : List (S83)) : List (S83))).bind fun y341 => (if y341.length + l0.length < 2199023255552 then (some (y341 ++ l0)) else (none)))
set_option maxHeartbeats 8000000 in
set_option maxRecDepth 100000 in
theorem impl_Kept_75.calls (A0 : Option Addr) (c0 : Nat) (l0 : List (S83)) (r : List (S83)) (w : World) (hr0 : Kd.C k83 w A0 l0.length l0) (hc0 : l0.length ≤ c0) (h : impl_Kept_75.f l0 = some r) :
  Calls Try.prog 75 #[.slice A0 l0.length c0] w fun e w' => ∃ v0_ : Value, e = .returned (v0_) ∧ Kd.R k83 83 w' w.heap.size (fun _ => True) v0_ r ∧ Below w.heap.size w w' := by
 have HR0 := Aside0.mk hr0
 have HC0 := Aside0.mk hc0
 clear hr0 hc0
 have HB := Aside0.mk (Below.refl w.heap.size w)
 have H : (if (l0.length : Int) = 0 then (some ([] : List (S83))) else ((some (([] : List (S83)) : List (S83))).bind fun y341 => (if y341.length + l0.length < 2199023255552 then (some (y341 ++ l0)) else (none)))) = some r := h
 clear h
 by_cases c2 : (l0.length : Int) = 0
 ·rw [if_pos c2] at H
  have c2b0 : ((l0.length : Int) == 0) = true := beq_iff_eq.mpr c2
  have c2b1 : ((l0.length : Int) != 0) = false := bne_eq_false_iff_eq.mpr c2
  clear c2
  obtain rfl := Option.some.inj H
  go_enter Try.func75, Try.ntmps75
  go_wp2
  go_ret
  exact ⟨_, z_13, z_16, z_8⟩
 ·rw [if_neg c2] at H
  have c2b0 : ((l0.length : Int) == 0) = false := beq_eq_false_iff_ne.mpr c2
  have c2b1 : ((l0.length : Int) != 0) = true := bne_iff_ne.mpr c2
  have c2b2 : ¬ (l0 = []) := fun h_ => c2 (by rw [h_]; rfl)
  obtain ⟨y341, hy341⟩ : ∃ y_ : List (S83), y_ = (([] : List (S83))) := ⟨_, rfl⟩
  replace H : (if y341.length + l0.length < 2199023255552 then (some (y341 ++ l0)) else (none)) = some r := by first | (rw [hy341]; with_reducible exact H) | (have H2_ := (Option.bind_some _ _).symm.trans H; rw [hy341]; with_reducible exact H2_) | (have H2_ := (Option.bind_some _ _).symm.trans H; with_reducible exact H2_) | with_reducible exact H | (rw [hy341]; exact H) | exact H
  have Ny341 := Aside0.mk hy341
  clear hy341
  by_cases c3 : y341.length + l0.length < 2199023255552
  ·rw [if_pos c3] at H
   have LMc3 := Aside0.mk c3
   clear c3
   obtain ⟨y344, hy344⟩ : ∃ y_ : List (S83), y_ = (y341 ++ l0) := ⟨_, rfl⟩
   replace H : (some y344) = some r := by first | (rw [hy344]; with_reducible exact H) | (have H2_ := (Option.bind_some _ _).symm.trans H; rw [hy344]; with_reducible exact H2_) | (have H2_ := (Option.bind_some _ _).symm.trans H; with_reducible exact H2_) | with_reducible exact H | (rw [hy344]; exact H) | exact H
   have Ny344 := Aside0.mk hy344
   clear hy344
   obtain rfl := Option.some.inj H
   have HO343 := Aside0.mk (show Kd.R k83 83 w w.heap.size (fun _ => True) (.slice none 0 0) y341 by rw [Ny341.out]; exact Kd.R_nil _ _ _ _ _)
   have HL63_ := Aside0.mk (show y344.length ≤ 9223372036854775807 by rw [Ny344.out, List.length_append]; have := LMc3.out; omega)
   go_enter Try.func75, Try.ntmps75
   go_wp2_with (first | ((with_reducible refine gate_builtin (b := .append) (xs := #[.const (.slice none 0 0), .tmp 6]) rfl ?_); at_builtin; refine Kd.R_append_rows k83 (w0 := w) w.heap.size rfl (.const (.slice none 0 0)) (.tmp 6) 48 83 (.agg #[(.string ⟨#[]⟩), (.int .i64 0), (.int .i64 0), (.string ⟨#[]⟩), (.int .i64 0), (.int .i64 0)]) 64 rfl Try.underlying48 info83 rfl (z_5) (z_6) (.slice none 0 0) y341 l0 _ _ _ (fun _ => True) (fun _ => False) rfl rfl ?aO ?aR (fun _ _ h => h) (fun _ h => h.elim) ?aF ?aB ?aS ?aL ?_; (case aR => exact z_56); (case aB => exact z_18); (case aF => exact z_52); (case aO => exact (by (with_reducible repeat (first | apply Kd.R_alloc | apply Kd.R_drewN | apply Kd.R_drew)); exact HO343.out)); (case aS => exact z_19); (case aL => have := LMc3.out; omega); intro v345 w6 ho hb hg hat; rw [← Ny344.out] at ho; have n0_ := Aside0.mk (hb); have n1_ := Aside0.mk (ho); clear HB; clear HO343; have HB := n0_; have HO346 := n1_; clear n0_ n1_; clear ho hb hg hat; obtain ⟨Ax_, cx_, ex_⟩ := Kd.R_slice HO346.out; subst ex_; have HLx_ := Aside0.mk (Kd.R_le HO346.out)) | (go_at_call 86; (with_reducible refine (slices_Clip_86.calls _ _ _ _ HLx_.out HL63_.out).mono ?_); rintro e w' ⟨rfl, hw_⟩; subst hw_))
   go_ret
   exact ⟨_, z_13, by (with_reducible repeat (first | apply Kd.R_alloc | apply Kd.R_drewN | apply Kd.R_drew)); exact Kd.R_clip HO346.out, z_8⟩
  ·rw [if_neg c3] at H
   exact absurd H (z_12)

/-! ### impl_Kept_84: function 84 -/
def impl_Kept_84.f (l0 : List (S83)) : Option ((List (S83))) := (some (([] : List (S83)) : List (S83))).bind fun y347 => (if y347.length + l0.length < 2199023255552 then (some (y347 ++ l0)) else (none))
set_option maxHeartbeats 8000000 in
set_option maxRecDepth 100000 in
theorem impl_Kept_84.calls (A0 : Option Addr) (c0 : Nat) (l0 : List (S83)) (r : List (S83)) (w : World) (hr0 : Kd.C k83 w A0 l0.length l0) (hc0 : l0.length ≤ c0) (h : impl_Kept_84.f l0 = some r) :
  Calls Try.prog 84 #[.slice A0 l0.length c0] w fun e w' => ∃ v0_ : Value, e = .returned (v0_) ∧ Kd.R k83 83 w' w.heap.size (fun _ => True) v0_ r ∧ Below w.heap.size w w' := by
 have HR0 := Aside0.mk hr0
 have HC0 := Aside0.mk hc0
 clear hr0 hc0
 have HB := Aside0.mk (Below.refl w.heap.size w)
 have H : ((some (([] : List (S83)) : List (S83))).bind fun y347 => (if y347.length + l0.length < 2199023255552 then (some (y347 ++ l0)) else (none))) = some r := h
 clear h
 obtain ⟨y347, hy347⟩ : ∃ y_ : List (S83), y_ = (([] : List (S83))) := ⟨_, rfl⟩
 replace H : (if y347.length + l0.length < 2199023255552 then (some (y347 ++ l0)) else (none)) = some r := by first | (rw [hy347]; with_reducible exact H) | (have H2_ := (Option.bind_some _ _).symm.trans H; rw [hy347]; with_reducible exact H2_) | (have H2_ := (Option.bind_some _ _).symm.trans H; with_reducible exact H2_) | with_reducible exact H | (rw [hy347]; exact H) | exact H
 have Ny347 := Aside0.mk hy347
 clear hy347
 by_cases c2 : y347.length + l0.length < 2199023255552
 ·rw [if_pos c2] at H
  have LMc2 := Aside0.mk c2
  clear c2
  obtain ⟨y350, hy350⟩ : ∃ y_ : List (S83), y_ = (y347 ++ l0) := ⟨_, rfl⟩
  replace H : (some y350) = some r := by first | (rw [hy350]; with_reducible exact H) | (have H2_ := (Option.bind_some _ _).symm.trans H; rw [hy350]; with_reducible exact H2_) | (have H2_ := (Option.bind_some _ _).symm.trans H; with_reducible exact H2_) | with_reducible exact H | (rw [hy350]; exact H) | exact H
  have Ny350 := Aside0.mk hy350
  clear hy350
  obtain rfl := Option.some.inj H
  cases A0 with
  | none =>
   have e0_ : l0 = [] := by
    rcases Nat.eq_zero_or_pos l0.length with h0 | h0
    ·exact List.eq_nil_of_length_eq_zero h0
    ·obtain ⟨_, h1, _⟩ := HR0.out.2.2 h0
     cases h1
   have e1_ : y350 = [] := by rw [Ny350.out, Ny347.out, e0_]; rfl
   subst e0_
   have hq_ : ∀ w, (binOp .eql 48 (.slice none 0 c0) (.slice none 0 0)).run Try.prog w = .ok (.bool true) w := fun w => Lib.run_eql_slice_nil w 48 83 none _ _ _ _ Try.underlying48
   go_enter Try.func84, Try.ntmps84
   go_wp2
   go_ret
   exact ⟨_, rfl, by first | exact Kd.R_nil _ _ _ _ _ | (rw [e1_]; exact Kd.R_nil _ _ _ _ _), HB.out⟩
  | some ad =>
   have hq_ : ∀ w, (binOp .eql 48 (.slice (some ad) l0.length c0) (.slice none 0 0)).run Try.prog w = .ok (.bool false) w := fun w => Lib.run_eql_slice_nil w 48 83 (some ad) _ _ _ _ Try.underlying48
   go_enter Try.func84, Try.ntmps84
   go_wp2_with (first | ((with_reducible refine gate_dst (N := 5) rfl ?_); refine Kd.R_lit k83 _ 83 ?hg (N := 5) ?hd (xs := ([] : List (S83))) (inner := []) (ok := fun _ => True) (okp := fun _ => True) ?hr ?hp (fun _ hk => hk) trivial (Below.refl _ _) (Nat.le_refl _) (z_12) ?_; (case hd => rfl); (case hg => rfl); (case hr => exact z_9); (case hp => exact z_44); intro v348 w3 ho4 hb hg_ hnew_; clear hg_ hnew_; (first | rw [← Ny347.out] at ho4 | (simp only [Int.reduceToNat] at ho4; rw [← Ny347.out] at ho4)); have n0_ := Aside0.mk (Kd.R_lower ho4 (below_size (z_8))); have n1_ := Aside0.mk (below_step (z_8) hb); clear HB; have HO349 := n0_; have HB := n1_; clear n0_ n1_; clear hb ho4) | ((with_reducible refine gate_builtin (b := .append) (xs := #[.tmp 5, .tmp 6]) rfl ?_); at_builtin; refine Kd.R_append_rows k83 (w0 := w) w.heap.size rfl (.tmp 5) (.tmp 6) 48 83 (.agg #[(.string ⟨#[]⟩), (.int .i64 0), (.int .i64 0), (.string ⟨#[]⟩), (.int .i64 0), (.int .i64 0)]) 64 rfl Try.underlying48 info83 rfl (z_5) (z_6) v348 y347 l0 _ _ _ (fun _ => True) (fun _ => False) rfl rfl ?aO ?aR (fun _ _ h => h) (fun _ h => h.elim) ?aF ?aB ?aS ?aL ?_; (case aR => exact z_56); (case aB => exact z_18); (case aF => exact z_52); (case aO => exact (by (with_reducible repeat (first | apply Kd.R_alloc | apply Kd.R_drewN | apply Kd.R_drew)); exact HO349.out)); (case aS => exact z_19); (case aL => have := LMc2.out; omega); intro v351 w5 ho hb hg hat; rw [← Ny350.out] at ho; have n0_ := Aside0.mk (hb); have n1_ := Aside0.mk (ho); clear HB; clear HO349; have HB := n0_; have HO352 := n1_; clear n0_ n1_; clear ho hb hg hat))
   go_ret
   exact ⟨_, z_13, by (with_reducible repeat (first | apply Kd.R_alloc | apply Kd.R_drewN | apply Kd.R_drew)); exact HO352.out, z_8⟩
 ·rw [if_neg c2] at H
  exact absurd H (z_12)

end Go.Proofs.Ytmgnmgobibpjjaa.GFnKeptFind
