/- What the Go functions that FnKeptAsk reaches come to, walked step by step; there is no condition beyond those each statement names. -/
import Derived.Test.YtmgnmgobibpjjaaGFnKeptAskx0
import Derived.Test.YtmgnmgobibpjjaaGFnKeptAskx12
import Derived.Test.YtmgnmgobibpjjaaGFnKeptAskx13
namespace Go.Proofs.Ytmgnmgobibpjjaa.GFnKeptAsk
open Go.RowKit Go.Proofs.YtmgnmgobibpjjaaVKeptAsk.PrintWords Go.Proofs.YtmgnmgobibpjjaaVKeptAsk.PrintLast Go.Proofs.YtmgnmgobibpjjaaVKeptAsk.PrintMore
attribute [local go_sem] max2_int min2_int max_two min_two max_three min_three max_four min_four   -- for this text's walks alone
set_option linter.unusedVariables false
set_option linter.unusedSimpArgs false

/-! ### spec_l20Names: function 62 -/
def spec_l20Names.l0 : Nat → Int → List (S26) → List ByteArray → Int → Int → List Int → Int → Option ((List (S26)) × Int)
 | 0, _, _, _, _, _, _, _ => none
 | k + 1, x1, x5, x10, x11, x12, x1000, x1001 => if x12 < x11 then (if 0 ≤ x12 then (if x12 < (x10.length : Int) then ((spec_l20Rd_pick.f k x1000 x1001 3).bind fun bt339 => (if bt339.1 > 0 then ((spec_l20Name.f k x1000 bt339.2 0).bind fun bt341 => (if x5.length < 2513169434916 then (spec_l20Names.l0 k x1 (x5 ++ [(⟨rdOf ByteArray.empty x10 x12, bt341.2.1, bt341.2.2.1, bt341.2.2.2.1, bt341.2.2.2.2.1⟩ : S26)]) x10 x11 (wrap64 (x12 + 1)) x1000 bt341.2.2.2.2.2) else (none))) else (spec_l20Names.l0 k x1 x5 x10 x11 (wrap64 (x12 + 1)) x1000 bt339.2))) else (none)) else (none)) else ((spec_l20Rd_odd.f k x1000 x1001 x1).bind fun bt351 => (if bt351.1 = true then ((spec_l20Name.f k x1000 bt351.2 1).bind fun bt353 => (if x5.length < 2513169434916 then (some ((x5 ++ [(⟨bt353.1, bt353.2.1, bt353.2.2.1, bt353.2.2.2.1, bt353.2.2.2.2.1⟩ : S26)]), bt353.2.2.2.2.2)) else (none))) else (some (x5, bt351.2))))
def spec_l20Names.f (k : Nat) (s0_0 : List Int) (s0_1 : Int) (a1 : Int) : Option ((List (S26)) × Int) := (some (([(⟨#[97]⟩ : ByteArray), (⟨#[98]⟩ : ByteArray), (⟨#[99]⟩ : ByteArray), (⟨#[100, 100]⟩ : ByteArray), (⟨#[101, 101]⟩ : ByteArray), (⟨#[102]⟩ : ByteArray), (⟨#[103, 103]⟩ : ByteArray)] : List ByteArray) : List ByteArray)).bind fun y335 => (spec_l20Names.l0 k a1 (([] : List (S26))) y335 (y335.length : Int) 0 s0_0 s0_1)
theorem spec_l20Names.mono_l : ∀ k, (∀ y0 y1 y2 y3 y4 y5 y6, LeO (spec_l20Names.l0 k y0 y1 y2 y3 y4 y5 y6) (spec_l20Names.l0 (k + 1) y0 y1 y2 y3 y4 y5 y6))
 | 0 => fun _ _ _ _ _ _ _ r h => by simp [spec_l20Names.l0] at h
 | k + 1 => by
  have ih0 := spec_l20Names.mono_l k
  ·intro y0 y1 y2 y3 y4 y5 y6
   unfold spec_l20Names.l0
   repeat' first
   | (with_reducible exact ih0 _ _ _ _ _ _ _)
   | (with_reducible exact spec_l20Name.mono _ _ _ _)
   | (with_reducible exact spec_l20Rd_odd.mono _ _ _ _)
   | (with_reducible exact spec_l20Rd_pick.mono _ _ _ _)
   | (with_reducible exact LeO.refl _)
   | (with_reducible exact LeO.none _)
   | (with_reducible refine LeO.ite ?_ ?_)
   | (with_reducible refine LeO.bind ?_ (fun _ => ?_))
   | exact ih0 _ _ _ _ _ _ _
   | exact spec_l20Name.mono _ _ _ _
   | exact spec_l20Rd_odd.mono _ _ _ _
   | exact spec_l20Rd_pick.mono _ _ _ _
   | exact LeO.none _
   | refine LeO.ite ?_ ?_
   | refine LeO.bind ?_ (fun _ => ?_)
theorem spec_l20Names.mono : ∀ a0 a1 a2 k, LeO (spec_l20Names.f k a0 a1 a2) (spec_l20Names.f (k + 1) a0 a1 a2) := by
 intro a0 a1 a2 k
 have ih0 := spec_l20Names.mono_l k
 unfold spec_l20Names.f
 repeat' first
   | (with_reducible exact ih0 _ _ _ _ _ _ _)
   | (with_reducible exact spec_l20Name.mono _ _ _ _)
   | (with_reducible exact spec_l20Rd_odd.mono _ _ _ _)
   | (with_reducible exact spec_l20Rd_pick.mono _ _ _ _)
   | (with_reducible exact LeO.refl _)
   | (with_reducible exact LeO.none _)
   | (with_reducible refine LeO.ite ?_ ?_)
   | (with_reducible refine LeO.bind ?_ (fun _ => ?_))
   | exact ih0 _ _ _ _ _ _ _
   | exact spec_l20Name.mono _ _ _ _
   | exact spec_l20Rd_odd.mono _ _ _ _
   | exact spec_l20Rd_pick.mono _ _ _ _
   | exact LeO.none _
   | refine LeO.ite ?_ ?_
   | refine LeO.bind ?_ (fun _ => ?_)
set_option maxHeartbeats 8000000 in
set_option maxRecDepth 100000 in
theorem spec_l20Names.calls (k : Nat) (g : Nat) (s0_0 : List Int) (s0_1 : Int) (a1 : Int) (r1 : List (S26)) (r2 : Int) (w0 w : World) (hI : IsS96 w0 w g s0_0 s0_1) (hB : Below w0.heap.size w0 w) (h : spec_l20Names.f k s0_0 s0_1 a1 = some (r1, r2)) :
  Calls Try.prog 62 #[.pointer (some ⟨g, 0, none⟩), .int .i64 a1] w fun e w' => ∃ v0_ : Value, e = .returned (v0_) ∧ Kd.R k26 26 w' w.heap.size (fun _ => True) v0_ r1 ∧ IsS96 w0 w' g s0_0 r2 ∧ Below w0.heap.size w0 w' ∧ KeepBut w w' g none := by
 have hu26 := Try.underlying26
 have HI0 := Aside0.mk hI
 have HK := Aside0.mk (KeepBut.refl w g none)
 have HL := Aside0.mk hB.size
 clear hI
 have HW0 := Aside0.mk hB.size
 have HB := Aside0.mk hB
 clear hB
 have H : ((some (([(⟨#[97]⟩ : ByteArray), (⟨#[98]⟩ : ByteArray), (⟨#[99]⟩ : ByteArray), (⟨#[100, 100]⟩ : ByteArray), (⟨#[101, 101]⟩ : ByteArray), (⟨#[102]⟩ : ByteArray), (⟨#[103, 103]⟩ : ByteArray)] : List ByteArray) : List ByteArray)).bind fun y335 => (spec_l20Names.l0 k a1 (([] : List (S26))) y335 (y335.length : Int) 0 s0_0 s0_1)) = some (r1, r2) := h
 clear h
 obtain ⟨y332, hy332⟩ : ∃ y_ : List (S26), y_ = (([] : List (S26))) := ⟨_, rfl⟩
 replace H : ((some (([(⟨#[97]⟩ : ByteArray), (⟨#[98]⟩ : ByteArray), (⟨#[99]⟩ : ByteArray), (⟨#[100, 100]⟩ : ByteArray), (⟨#[101, 101]⟩ : ByteArray), (⟨#[102]⟩ : ByteArray), (⟨#[103, 103]⟩ : ByteArray)] : List ByteArray) : List ByteArray)).bind fun y335 => (spec_l20Names.l0 k a1 y332 y335 (y335.length : Int) 0 s0_0 s0_1)) = some (r1, r2) := by first | (rw [hy332]; with_reducible exact H) | (have H2_ := (Option.bind_some _ _).symm.trans H; rw [hy332]; with_reducible exact H2_) | (have H2_ := (Option.bind_some _ _).symm.trans H; with_reducible exact H2_) | with_reducible exact H | (rw [hy332]; exact H) | exact H
 have Ny332 := Aside0.mk hy332
 clear hy332
 obtain ⟨y335, hy335⟩ : ∃ y_ : List ByteArray, y_ = (([(⟨#[97]⟩ : ByteArray), (⟨#[98]⟩ : ByteArray), (⟨#[99]⟩ : ByteArray), (⟨#[100, 100]⟩ : ByteArray), (⟨#[101, 101]⟩ : ByteArray), (⟨#[102]⟩ : ByteArray), (⟨#[103, 103]⟩ : ByteArray)] : List ByteArray)) := ⟨_, rfl⟩
 replace H : (spec_l20Names.l0 k a1 y332 y335 (y335.length : Int) 0 s0_0 s0_1) = some (r1, r2) := by first | (rw [hy335]; with_reducible exact H) | (have H2_ := (Option.bind_some _ _).symm.trans H; rw [hy335]; with_reducible exact H2_) | (have H2_ := (Option.bind_some _ _).symm.trans H; with_reducible exact H2_) | with_reducible exact H | (rw [hy335]; exact H) | exact H
 have Ny335 := Aside0.mk hy335
 clear hy335
 have H' := Aside0.mk H
 clear H
 go_enter Try.func62, Try.ntmps62
 go_wp2_with (first | ((with_reducible refine gate_dst (N := 9) rfl ?_); refine Kd.R_lit k26 _ 26 ?hg (N := 9) ?hd (xs := ([] : List (S26))) (inner := []) (ok := fun _ => True) (okp := fun _ => True) ?hr ?hp (fun _ hk => hk) trivial (Below.refl _ _) (Nat.le_refl _) (z_12) ?_; (case hd => rfl); (case hg => rfl); (case hr => exact z_9); (case hp => exact (Reps.none _ _)); intro v333 w3 ho4 hb hg_ hnew_; clear hg_ hnew_; (first | rw [← Ny332.out] at ho4 | (simp only [Int.reduceToNat] at ho4; rw [← Ny332.out] at ho4)); have n0_ := Aside0.mk (Kd.R_lower ho4 (keep_size (w := w) (g := g) (row := none) (z_98))); have n1_ := Aside0.mk (IsS96.below (z_97) hb); have n2_ := Aside0.mk (KeepBut.trans (z_98) (KeepBut.of_below hb g none) (.inl rfl)); have n3_ := Aside0.mk (below_step (z_99) hb); clear HI0; clear HK; clear HB; have HO334 := n0_; have HI0 := n1_; have HK := n2_; have HB := n3_; clear n0_ n1_ n2_ n3_; clear hb ho4) | ((with_reducible refine gate_dst (N := 10) rfl ?_); refine Kd.R_lit Kd.string _ 9 ?hg (N := 10) ?hd (xs := ([(⟨#[97]⟩ : ByteArray), (⟨#[98]⟩ : ByteArray), (⟨#[99]⟩ : ByteArray), (⟨#[100, 100]⟩ : ByteArray), (⟨#[101, 101]⟩ : ByteArray), (⟨#[102]⟩ : ByteArray), (⟨#[103, 103]⟩ : ByteArray)] : List ByteArray)) (inner := [.string (⟨#[97]⟩ : ByteArray), .string (⟨#[98]⟩ : ByteArray), .string (⟨#[99]⟩ : ByteArray), .string (⟨#[100, 100]⟩ : ByteArray), .string (⟨#[101, 101]⟩ : ByteArray), .string (⟨#[102]⟩ : ByteArray), .string (⟨#[103, 103]⟩ : ByteArray)]) (ok := fun _ => True) (okp := fun _ => True) ?hr ?hp (fun _ hk => hk) trivial (Below.refl _ _) (Nat.le_refl _) (z_12) ?_; (case hd => rfl); (case hg => rfl); (case hr => exact z_9); (case hp => exact (Reps.one (show Kd.M Kd.string _ _ _ (⟨#[97]⟩ : ByteArray) [.string (⟨#[97]⟩ : ByteArray)] from rfl) (Reps.one (show Kd.M Kd.string _ _ _ (⟨#[98]⟩ : ByteArray) [.string (⟨#[98]⟩ : ByteArray)] from rfl) (Reps.one (show Kd.M Kd.string _ _ _ (⟨#[99]⟩ : ByteArray) [.string (⟨#[99]⟩ : ByteArray)] from rfl) (Reps.one (show Kd.M Kd.string _ _ _ (⟨#[100, 100]⟩ : ByteArray) [.string (⟨#[100, 100]⟩ : ByteArray)] from rfl) (Reps.one (show Kd.M Kd.string _ _ _ (⟨#[101, 101]⟩ : ByteArray) [.string (⟨#[101, 101]⟩ : ByteArray)] from rfl) (Reps.one (show Kd.M Kd.string _ _ _ (⟨#[102]⟩ : ByteArray) [.string (⟨#[102]⟩ : ByteArray)] from rfl) (Reps.one (show Kd.M Kd.string _ _ _ (⟨#[103, 103]⟩ : ByteArray) [.string (⟨#[103, 103]⟩ : ByteArray)] from rfl) (Reps.none _ _))))))))); intro v336 w5 ho6 hb hg_ hnew_; clear hg_ hnew_; (first | rw [← Ny335.out] at ho6 | (simp only [Int.reduceToNat] at ho6; rw [← Ny335.out] at ho6)); have n0_ := Aside0.mk (Kd.R_below (z_110) hb); have n1_ := Aside0.mk (Kd.R_lower ho6 (keep_size (w := w) (g := g) (row := none) (z_98))); have n2_ := Aside0.mk (IsS96.below (z_97) hb); have n3_ := Aside0.mk (KeepBut.trans (z_98) (KeepBut.of_below hb g none) (.inl rfl)); have n4_ := Aside0.mk (below_step (z_99) hb); clear HO334; clear HI0; clear HK; clear HB; have HO334 := n0_; have HO337 := n1_; have HI0 := n2_; have HK := n3_; have HB := n4_; clear n0_ n1_ n2_ n3_ n4_; clear hb ho6; obtain ⟨Ao7, co7, eo7⟩ := Kd.R_slice HO337.out; subst eo7))
 go_loopg [5, 12] k (fun kq v5 v12 w' => ∃ (x5_1 : List (S26)) (x12_1 : Int) (x1001_1 : Int), v12 = .int .i64 x12_1 ∧ Aside0 (spec_l20Names.l0 kq a1 x5_1 y335 (y335.length : Int) x12_1 s0_0 x1001_1 = some (r1, r2)) ∧ Aside0 (kq ≤ k) ∧ Aside0 (Kd.R k26 26 w' w.heap.size (fun _ => True) v5 x5_1) ∧ Aside0 (Kd.R Kd.string 9 w' w.heap.size (fun _ => True) (.slice Ao7 y335.length co7) y335) ∧ Aside0 (IsS96 w0 w' g s0_0 x1001_1) ∧ Aside0 (KeepBut w w' g none) ∧ Aside0 (Below w0.heap.size w0 w'))
 case atStart => exact ⟨(y332), (0), (s0_1), (z_3), H', ⟨Nat.le_refl _⟩, ⟨z_110⟩, ⟨by (with_reducible repeat (first | apply Kd.R_alloc | apply Kd.R_drewN | apply Kd.R_drew)); exact HO337.out⟩, ⟨z_97⟩, ⟨z_98⟩, ⟨z_99⟩⟩
 case round =>
  clear H'
  try clear p2
  try clear c6
  obtain ⟨x5_1, x12_1, x1001_1, rfl, HA, HK1, HO_5, HO_10, HI0, HK, HB⟩ := hrel
  cases gk with
  | zero => exact absurd HA.out (by simp [spec_l20Names.l0])
  | succ k1 =>
   have H := HA.out
   clear HA
   simp only [spec_l20Names.l0] at H
   by_cases c8 : x12_1 < (y335.length : Int)
   ·rw [if_pos c8] at H
    have c8b0 : decide (x12_1 < (y335.length : Int)) = true := decide_eq_true c8
    clear c8
    by_cases c9 : 0 ≤ x12_1
    ·rw [if_pos c9] at H
     have c9b0 : decide (0 ≤ x12_1) = true := decide_eq_true c9
     clear c9
     by_cases c10 : x12_1 < (y335.length : Int)
     ·rw [if_pos c10] at H
      have c10b0 : decide (x12_1 < (y335.length : Int)) = true := decide_eq_true c10
      clear c10
      replace H := Option.bind_eq_some_iff.mp H
      obtain ⟨⟨t339, t340⟩, A110, H⟩ := H
      replace H : (if t339 > 0 then ((spec_l20Name.f k1 s0_0 t340 0).bind fun bt341 => (if x5_1.length < 2513169434916 then (spec_l20Names.l0 k1 a1 (x5_1 ++ [(⟨rdOf ByteArray.empty y335 x12_1, bt341.2.1, bt341.2.2.1, bt341.2.2.2.1, bt341.2.2.2.2.1⟩ : S26)]) y335 (y335.length : Int) (wrap64 (x12_1 + 1)) s0_0 bt341.2.2.2.2.2) else (none))) else (spec_l20Names.l0 k1 a1 x5_1 y335 (y335.length : Int) (wrap64 (x12_1 + 1)) s0_0 t340)) = some (r1, r2) := H
      have A11 := Aside0.mk A110
      clear A110
      by_cases c12 : t339 > 0
      ·rw [if_pos c12] at H
       have c12b0 : decide (0 < t339) = true := decide_eq_true c12
       clear c12
       replace H := Option.bind_eq_some_iff.mp H
       obtain ⟨⟨t341, t342, t343, t344, t345, t346⟩, A130, H⟩ := H
       replace H : (if x5_1.length < 2513169434916 then (spec_l20Names.l0 k1 a1 (x5_1 ++ [(⟨rdOf ByteArray.empty y335 x12_1, t342, t343, t344, t345⟩ : S26)]) y335 (y335.length : Int) (wrap64 (x12_1 + 1)) s0_0 t346) else (none)) = some (r1, r2) := H
       have A13 := Aside0.mk A130
       clear A130
       by_cases c14 : x5_1.length < 2513169434916
       ·rw [if_pos c14] at H
        have LMc14 := Aside0.mk c14
        clear c14
        obtain ⟨y348, hy348⟩ : ∃ y_ : List (S26), y_ = (x5_1 ++ [(⟨rdOf ByteArray.empty y335 x12_1, t342, t343, t344, t345⟩ : S26)]) := ⟨_, rfl⟩
        replace H : (spec_l20Names.l0 k1 a1 y348 y335 (y335.length : Int) (wrap64 (x12_1 + 1)) s0_0 t346) = some (r1, r2) := by first | (rw [hy348]; with_reducible exact H) | (have H2_ := (Option.bind_some _ _).symm.trans H; rw [hy348]; with_reducible exact H2_) | (have H2_ := (Option.bind_some _ _).symm.trans H; with_reducible exact H2_) | with_reducible exact H | (rw [hy348]; exact H) | exact H
        have Ny348 := Aside0.mk hy348
        clear hy348
        have H' := Aside0.mk H
        clear H
        have p338 : 0 ≤ (x12_1 : Int) := of_decide_eq_true (z_7)
        have q338 : x12_1 < (y335.length : Int) := of_decide_eq_true (z_7)
        obtain ⟨ad338, e338, hx338_0⟩ := Kd.at_string (Kd.R_reads' HO_10.out).2.2 x12_1 p338 q338
        cases e338
        replace p338 := eq_true p338
        replace q338 := eq_true q338
        generalize htx_ : rdOf ByteArray.empty y335 x12_1 = tx_ at hx338_0 Ny348
        clear htx_
        go_upto_region 8 with (first | ((with_reducible refine gate_callee (f := 69) rfl ?_); refine goesL_ (some 17) rfl rfl Try.func69 (z_0) rfl #[.pointer (some ⟨g, 0, none⟩), .int .i64 3] rfl (z_14) ?_; (with_reducible refine (spec_l20Rd_pick.calls k1 g s0_0 x1001_1 3 t339 t340 w0 _ ?side1 ?side2 A11.out).mono ?_); (case side1 => exact z_97); (case side2 => exact z_99); rintro e w15 ⟨rfl, hi, hb, hk⟩; refine ⟨_, rfl, ?_⟩; have n0_ := Aside0.mk (Kd.R_mono (Kd.R_keep (IsS96.apart (show IsS96 w0 _ g s0_0 x1001_1 from z_97) (z_11) (z_5)) hk (fun _ h => h.2)) (fun _ h => h.1)); have n1_ := Aside0.mk (Kd.R_mono (Kd.R_keep (IsS96.apart (show IsS96 w0 _ g s0_0 x1001_1 from z_97) (z_111) (z_5)) hk (fun _ h => h.2)) (fun _ h => h.1)); have n2_ := Aside0.mk (KeepBut.trans (z_98) hk (.inl rfl)); have n3_ := Aside0.mk (hb); have n4_ := Aside0.mk (hi); clear HO_5; clear HO_10; clear HK; clear HB; clear HI0; have HO_5 := n0_; have HO_10 := n1_; have HK := n2_; have HB := n3_; have HI0 := n4_; clear n0_ n1_ n2_ n3_ n4_; (try clear hb); (try clear hb2); (try clear hk); (try clear hi)) | ((with_reducible refine gate_callee (f := 59) rfl ?_); refine goesL_ (some 20) rfl rfl Try.func59 (z_0) rfl #[.pointer (some ⟨g, 0, none⟩), .int .i64 0] rfl (z_14) ?_; (with_reducible refine (spec_l20Name.calls k1 g s0_0 t340 0 t341 t342 t343 t344 t345 t346 w0 _ ?side1 ?side2 A13.out).mono ?_); (case side1 => exact z_97); (case side2 => exact z_99); rintro e w16 ⟨rfl, hi, hb, hk⟩; refine ⟨_, rfl, ?_⟩; have n0_ := Aside0.mk (Kd.R_mono (Kd.R_keep (IsS96.apart (show IsS96 w0 _ g s0_0 t340 from z_97) (z_11) (z_5)) hk (fun _ h => h.2)) (fun _ h => h.1)); have n1_ := Aside0.mk (Kd.R_mono (Kd.R_keep (IsS96.apart (show IsS96 w0 _ g s0_0 t340 from z_97) (z_111) (z_5)) hk (fun _ h => h.2)) (fun _ h => h.1)); have n2_ := Aside0.mk (KeepBut.trans (z_98) hk (.inl rfl)); have n3_ := Aside0.mk (hb); have n4_ := Aside0.mk (hi); clear HO_5; clear HO_10; clear HK; clear HB; clear HI0; have HO_5 := n0_; have HO_10 := n1_; have HK := n2_; have HB := n3_; have HI0 := n4_; clear n0_ n1_ n2_ n3_ n4_; (try clear hb); (try clear hb2); (try clear hk); (try clear hi)) | ((with_reducible refine gate_dst (N := 8) rfl ?_); refine box_event ?hg (N := 8) ?hd (cs := #[.string (⟨#[]⟩ : ByteArray), .int .i64 0, .int .i64 0, .string (⟨#[]⟩ : ByteArray), .int .i64 0]) (t := 26) ?hr ?_; (case hd => rfl); (case hg => rfl); (case hr => exact z_9); intro gb347 hg w17 hbox hb; have n0_ := Aside0.mk (Kd.R_below (Kd.R_elderB (z_11) gb347 (Nat.le_of_eq hg.symm)) hb); have n1_ := Aside0.mk (Kd.R_below (z_111) hb); have n2_ := Aside0.mk (IsS96.below (z_97) hb); have n3_ := Aside0.mk (KeepBut.trans (z_98) (KeepBut.of_below hb g none) (.inl rfl)); have n4_ := Aside0.mk (below_step (z_99) hb); have n5_ := Aside0.mk (hbox); have n6_ := Aside0.mk ((z_100 : w.heap.size ≤ gb347)); have n7_ := Aside0.mk ((Nat.le_trans HW0.out (z_100 : w.heap.size ≤ gb347) : w0.heap.size ≤ gb347)); have n8_ := Aside0.mk ((by rw [hg]; exact Nat.ne_of_lt (IsS96.lt (show IsS96 w0 _ g s0_0 t346 from z_97)) : g ≠ gb347)); have n9_ := Aside0.mk ((by rw [hg]; exact Nat.ne_of_gt (IsS96.lt (show IsS96 w0 _ g s0_0 t346 from z_97)) : gb347 ≠ g)); clear HO_5; clear HO_10; clear HI0; clear HK; clear HB; have HO_5 := n0_; have HO_10 := n1_; have HI0 := n2_; have HK := n3_; have HB := n4_; have BK347 := n5_; have GW347 := n6_; have GE347 := n7_; have NB0_347 := n8_; have NB347_0 := n9_; clear n0_ n1_ n2_ n3_ n4_ n5_ n6_ n7_ n8_ n9_; clear hb hbox hg; have hnb18 := NB347_0.out; have hnc18 := NB0_347.out; have hcz19_0 : w17.cell? ⟨gb347, 0, none⟩ = some (.string (⟨#[]⟩ : ByteArray)) := (blk_cell BK347.out 0).trans rfl; have hcz19_1 : w17.cell? ⟨gb347, 1, none⟩ = some (.int .i64 0) := (blk_cell BK347.out 1).trans rfl; have hcz19_2 : w17.cell? ⟨gb347, 2, none⟩ = some (.int .i64 0) := (blk_cell BK347.out 2).trans rfl; have hcz19_3 : w17.cell? ⟨gb347, 3, none⟩ = some (.string (⟨#[]⟩ : ByteArray)) := (blk_cell BK347.out 3).trans rfl; have hcz19_4 : w17.cell? ⟨gb347, 4, none⟩ = some (.int .i64 0) := (blk_cell BK347.out 4).trans rfl; have hfz19_0 := blk_frozen BK347.out 0; have hfz19_1 := blk_frozen BK347.out 1; have hfz19_2 := blk_frozen BK347.out 2; have hfz19_3 := blk_frozen BK347.out 3; have hfz19_4 := blk_frozen BK347.out 4))
        obtain ⟨w18, hw18_⟩ : ∃ w_ : World, w_ = ((((((w17.setCell ⟨gb347, 0, none⟩ (.string t341)).setCell ⟨gb347, 1, none⟩ (.int .i64 t342)).setCell ⟨gb347, 2, none⟩ (.int .i64 t343)).setCell ⟨gb347, 3, none⟩ (.string t344)).setCell ⟨gb347, 4, none⟩ (.int .i64 t345)).setCell ⟨gb347, 0, none⟩ (.string (tx_))) := ⟨_, rfl⟩
        have nb_ := Aside0.mk (show w18.heap[gb347]? = some (.cells #[.string (tx_), .int .i64 t342, .int .i64 t343, .string t344, .int .i64 t345] 26 (0, 0)) by rw [hw18_]; (with_reducible repeat (first | refine blk_drewN ?_ _ | refine blk_drew ?_ | refine blk_alloc ?_ _)); refine blk_put (cs := #[.string t341, .int .i64 t342, .int .i64 t343, .string t344, .int .i64 t345]) ?_ 0 _ rfl; (with_reducible repeat (first | refine blk_drewN ?_ _ | refine blk_drew ?_ | refine blk_alloc ?_ _)); refine blk_put (cs := #[.string t341, .int .i64 t342, .int .i64 t343, .string t344, .int .i64 0]) ?_ 4 _ rfl; (with_reducible repeat (first | refine blk_drewN ?_ _ | refine blk_drew ?_ | refine blk_alloc ?_ _)); refine blk_put (cs := #[.string t341, .int .i64 t342, .int .i64 t343, .string (⟨#[]⟩ : ByteArray), .int .i64 0]) ?_ 3 _ rfl; (with_reducible repeat (first | refine blk_drewN ?_ _ | refine blk_drew ?_ | refine blk_alloc ?_ _)); refine blk_put (cs := #[.string t341, .int .i64 t342, .int .i64 0, .string (⟨#[]⟩ : ByteArray), .int .i64 0]) ?_ 2 _ rfl; (with_reducible repeat (first | refine blk_drewN ?_ _ | refine blk_drew ?_ | refine blk_alloc ?_ _)); refine blk_put (cs := #[.string t341, .int .i64 0, .int .i64 0, .string (⟨#[]⟩ : ByteArray), .int .i64 0]) ?_ 1 _ rfl; (with_reducible repeat (first | refine blk_drewN ?_ _ | refine blk_drew ?_ | refine blk_alloc ?_ _)); refine blk_put (cs := #[.string (⟨#[]⟩ : ByteArray), .int .i64 0, .int .i64 0, .string (⟨#[]⟩ : ByteArray), .int .i64 0]) ?_ 0 _ rfl; (with_reducible repeat (first | refine blk_drewN ?_ _ | refine blk_drew ?_ | refine blk_alloc ?_ _)); exact BK347.out)
        have n5_ := Aside0.mk (show Kd.R k26 26 w18 w.heap.size (fun k_ => k_ ≠ gb347) u5 x5_1 by rw [hw18_]; exact Kd.R_mono (Kd.R_far (p := ⟨gb347, 0, none⟩) (Kd.R_far (p := ⟨gb347, 4, none⟩) (Kd.R_far (p := ⟨gb347, 3, none⟩) (Kd.R_far (p := ⟨gb347, 2, none⟩) (Kd.R_far (p := ⟨gb347, 1, none⟩) (Kd.R_far (p := ⟨gb347, 0, none⟩) (Kd.R_mono HO_5.out (fun k_ hk => (⟨hk, hk.2⟩ : _ ∧ k_ ≠ gb347))) (fun _ hk => hk.2) (.string t341)) (fun _ hk => hk.2) (.int .i64 t342)) (fun _ hk => hk.2) (.int .i64 t343)) (fun _ hk => hk.2) (.string t344)) (fun _ hk => hk.2) (.int .i64 t345)) (fun _ hk => hk.2) (.string (tx_))) (fun _ hk => hk.1.2))
        have n10_ := Aside0.mk (show Kd.R Kd.string 9 w18 w.heap.size (fun _ => True) _ y335 by rw [hw18_]; exact (Kd.R_mono (Kd.R_far (p := ⟨gb347, 0, none⟩) (Kd.R_far (p := ⟨gb347, 4, none⟩) (Kd.R_far (p := ⟨gb347, 3, none⟩) (Kd.R_far (p := ⟨gb347, 2, none⟩) (Kd.R_far (p := ⟨gb347, 1, none⟩) (Kd.R_far (p := ⟨gb347, 0, none⟩) (Kd.R_types HO_10.out BK347.out (z_5)) (fun _ hk => hk.2) (.string t341)) (fun _ hk => hk.2) (.int .i64 t342)) (fun _ hk => hk.2) (.int .i64 t343)) (fun _ hk => hk.2) (.string t344)) (fun _ hk => hk.2) (.int .i64 t345)) (fun _ hk => hk.2) (.string (tx_))) (fun _ h_ => h_.1)))
        have ni_ := Aside0.mk (show IsS96 w0 w18 g s0_0 t346 by rw [hw18_]; repeat (first | (with_reducible first | exact HI0.out | apply IsS96.alloc | apply IsS96.drewN | apply IsS96.drew | apply IsS96.set_1 | refine IsS96.far ?_ NB0_347.out _) | exact HI0.out))
        have nk_ := Aside0.mk (show KeepBut w w18 g none by rw [hw18_]; repeat (first | (with_reducible first | exact HK.out | apply KeepBut.set_ | apply keep_drewN | apply keep_drew | apply keep_alloc | refine keep_far ?_ GW347.out _) | exact HK.out))
        have nw_ := Aside0.mk (show Below w0.heap.size w0 w18 by rw [hw18_]; repeat (first | (with_reducible first | exact HB.out | apply below_alloc | apply pw_below_drewN | apply below_drew1 | refine below_set ?_ (IsS96.ge HI0.out) | refine below_set ?_ GE347.out) | exact HB.out))
        rw [← hw18_]
        clear hw18_ HO_5 HO_10 HI0 HK HB BK347
        clear hcz19_0
        clear hcz19_1
        clear hcz19_2
        clear hcz19_3
        clear hcz19_4
        clear hfz19_0
        clear hfz19_1
        clear hfz19_2
        clear hfz19_3
        clear hfz19_4
        have BK347 := nb_
        have HO_5 := n5_
        have HO_10 := n10_
        have HI0 := ni_
        have HK := nk_
        have HB := nw_
        clear nb_ n5_ n10_ ni_ nk_ nw_
        have hcz_0 : w18.cell? ⟨gb347, 0, none⟩ = some (.string (tx_)) := (blk_cell BK347.out 0).trans rfl
        have hfz_0 := blk_frozen BK347.out 0
        have hcz_1 : w18.cell? ⟨gb347, 1, none⟩ = some (.int .i64 t342) := (blk_cell BK347.out 1).trans rfl
        have hfz_1 := blk_frozen BK347.out 1
        have hcz_2 : w18.cell? ⟨gb347, 2, none⟩ = some (.int .i64 t343) := (blk_cell BK347.out 2).trans rfl
        have hfz_2 := blk_frozen BK347.out 2
        have hcz_3 : w18.cell? ⟨gb347, 3, none⟩ = some (.string t344) := (blk_cell BK347.out 3).trans rfl
        have hfz_3 := blk_frozen BK347.out 3
        have hcz_4 : w18.cell? ⟨gb347, 4, none⟩ = some (.int .i64 t345) := (blk_cell BK347.out 4).trans rfl
        have hfz_4 := blk_frozen BK347.out 4
        go_wp2_with (first | ((with_reducible refine gate_builtin (b := .append) (xs := #[.tmp 23, .tmp 25]) rfl ?_); at_builtin; refine Kd.R_append k26 w.heap.size rfl (.tmp 23) (.tmp 25) 36 26 (.agg #[(.string ⟨#[]⟩), (.int .i64 0), (.int .i64 0), (.string ⟨#[]⟩), (.int .i64 0)]) 56 rfl Try.underlying36 info26 rfl (z_5) (z_6) u5 x5_1 (⟨tx_, t342, t343, t344, t345⟩ : S26) [.string (tx_), .int .i64 t342, .int .i64 t343, .string t344, .int .i64 t345] (fun k_ => k_ ≠ gb347) (fun _ => False) rfl (z_9) ?aP (fun _ hk => hk.elim) ?aF ?aO (Below.refl _ _) ?aS ?aL ?_; (case aP => exact k26_mkM _ _ _ (⟨tx_, t342, t343, t344, t345⟩ : S26)); (case aF => exact (fun k_ hk => Kd.freshB (g := gb347) (o := .cells #[.string (tx_), .int .i64 t342, .int .i64 t343, .string t344, .int .i64 t345] 26 (0, 0)) (z_112) k_ hk)); (case aO => exact z_113); (case aS => exact (keep_size (w := w) (g := g) (row := none) (z_114))); (case aL => have := LMc14.out; omega); intro v349 w20 ho hb hg hat; rw [← Ny348.out] at ho; have n0_ := Aside0.mk (Kd.R_over' (z_111) (Kd.R_typed (z_11)) (z_5) hg); have n1_ := Aside0.mk (IsS96.grown (z_115) hg (IsS96.own_ne HI0.out HO_5.out (z_5))); have n2_ := Aside0.mk (blk_grown (g := gb347) (o := .cells #[.string (tx_), .int .i64 t342, .int .i64 t343, .string t344, .int .i64 t345] 26 (0, 0)) (z_112) hg (Kd.R_away HO_5.out (fun _ hk => hk))); have n3_ := Aside0.mk (below_weaken (z_116) HL.out hb); have n4_ := Aside0.mk (KeepBut.trans (z_114) (KeepBut.of_grown hg g) (Kd.R_base2 HO_5.out)); have n5_ := Aside0.mk (ho); clear HO_10; clear HI0; clear BK347; clear HB; clear HK; clear HO_5; have HO_10 := n0_; have HI0 := n1_; have BK347 := n2_; have HB := n3_; have HK := n4_; have HO350 := n5_; clear n0_ n1_ n2_ n3_ n4_ n5_; clear ho hb hg hat))
        go_roundg k1
        case measure => have := HK1.out; omega
        case rel => exact ⟨(y348), (wrap64 (x12_1 + 1)), (t346), (z_3), H', ⟨z_10⟩, ⟨by (with_reducible repeat (first | apply Kd.R_alloc | apply Kd.R_drewN | apply Kd.R_drew)); exact Kd.R_mono HO350.out (fun _ hk => trivial)⟩, ⟨z_111⟩, ⟨z_115⟩, ⟨z_114⟩, ⟨z_116⟩⟩
       ·rw [if_neg c14] at H
        exact absurd H (z_12)
      ·rw [if_neg c12] at H
       have c12b0 : decide (0 < t339) = false := decide_eq_false c12
       clear c12
       have H' := Aside0.mk H
       clear H
       have p338 : 0 ≤ (x12_1 : Int) := of_decide_eq_true (z_7)
       have q338 : x12_1 < (y335.length : Int) := of_decide_eq_true (z_7)
       obtain ⟨ad338, e338, hx338_0⟩ := Kd.at_string (Kd.R_reads' HO_10.out).2.2 x12_1 p338 q338
       cases e338
       replace p338 := eq_true p338
       replace q338 := eq_true q338
       go_wp2_with (first | ((with_reducible refine gate_callee (f := 69) rfl ?_); refine goesL_ (some 17) rfl rfl Try.func69 (z_0) rfl #[.pointer (some ⟨g, 0, none⟩), .int .i64 3] rfl (z_14) ?_; (with_reducible refine (spec_l20Rd_pick.calls k1 g s0_0 x1001_1 3 t339 t340 w0 _ ?side1 ?side2 A11.out).mono ?_); (case side1 => exact z_97); (case side2 => exact z_99); rintro e w21 ⟨rfl, hi, hb, hk⟩; refine ⟨_, rfl, ?_⟩; have n0_ := Aside0.mk (Kd.R_mono (Kd.R_keep (IsS96.apart (show IsS96 w0 _ g s0_0 x1001_1 from z_97) (z_11) (z_5)) hk (fun _ h => h.2)) (fun _ h => h.1)); have n1_ := Aside0.mk (Kd.R_mono (Kd.R_keep (IsS96.apart (show IsS96 w0 _ g s0_0 x1001_1 from z_97) (z_111) (z_5)) hk (fun _ h => h.2)) (fun _ h => h.1)); have n2_ := Aside0.mk (KeepBut.trans (z_98) hk (.inl rfl)); have n3_ := Aside0.mk (hb); have n4_ := Aside0.mk (hi); clear HO_5; clear HO_10; clear HK; clear HB; clear HI0; have HO_5 := n0_; have HO_10 := n1_; have HK := n2_; have HB := n3_; have HI0 := n4_; clear n0_ n1_ n2_ n3_ n4_; (try clear hb); (try clear hb2); (try clear hk); (try clear hi)))
       go_roundg k1
       case measure => have := HK1.out; omega
       case rel => exact ⟨(x5_1), (wrap64 (x12_1 + 1)), (t340), (z_3), H', ⟨z_10⟩, ⟨z_11⟩, ⟨z_111⟩, ⟨z_97⟩, ⟨z_98⟩, ⟨z_99⟩⟩
     ·rw [if_neg c10] at H
      exact absurd H (z_12)
    ·rw [if_neg c9] at H
     exact absurd H (z_12)
   ·rw [if_neg c8] at H
    have c8b0 : decide (x12_1 < (y335.length : Int)) = false := decide_eq_false c8
    clear c8
    replace H := Option.bind_eq_some_iff.mp H
    obtain ⟨⟨t351, t352⟩, A220, H⟩ := H
    replace H : (if t351 = true then ((spec_l20Name.f k1 s0_0 t352 1).bind fun bt353 => (if x5_1.length < 2513169434916 then (some ((x5_1 ++ [(⟨bt353.1, bt353.2.1, bt353.2.2.1, bt353.2.2.2.1, bt353.2.2.2.2.1⟩ : S26)]), bt353.2.2.2.2.2)) else (none))) else (some (x5_1, t352))) = some (r1, r2) := H
    have A22 := Aside0.mk A220
    clear A220
    by_cases c23 : t351 = true
    ·subst c23
     rw [if_pos rfl] at H
     replace H := Option.bind_eq_some_iff.mp H
     obtain ⟨⟨t353, t354, t355, t356, t357, t358⟩, A240, H⟩ := H
     replace H : (if x5_1.length < 2513169434916 then (some ((x5_1 ++ [(⟨t353, t354, t355, t356, t357⟩ : S26)]), t358)) else (none)) = some (r1, r2) := H
     have A24 := Aside0.mk A240
     clear A240
     by_cases c25 : x5_1.length < 2513169434916
     ·rw [if_pos c25] at H
      have LMc25 := Aside0.mk c25
      clear c25
      obtain ⟨y359, hy359⟩ : ∃ y_ : List (S26), y_ = (x5_1 ++ [(⟨t353, t354, t355, t356, t357⟩ : S26)]) := ⟨_, rfl⟩
      replace H : (some (y359, t358)) = some (r1, r2) := by first | (rw [hy359]; with_reducible exact H) | (have H2_ := (Option.bind_some _ _).symm.trans H; rw [hy359]; with_reducible exact H2_) | (have H2_ := (Option.bind_some _ _).symm.trans H; with_reducible exact H2_) | with_reducible exact H | (rw [hy359]; exact H) | exact H
      have Ny359 := Aside0.mk hy359
      clear hy359
      simp only [Option.some.injEq, Prod.mk.injEq] at H
      obtain ⟨rfl, rfl⟩ := H
      go_wp2_with (first | ((with_reducible refine gate_callee (f := 78) rfl ?_); refine goesL_ (some 30) rfl rfl Try.func78 (z_0) rfl #[.pointer (some ⟨g, 0, none⟩), .int .i64 a1] rfl (z_14) ?_; (with_reducible refine (spec_l20Rd_odd.calls k1 g s0_0 x1001_1 a1 true t352 w0 _ ?side1 ?side2 A22.out).mono ?_); (case side1 => exact z_97); (case side2 => exact z_99); rintro e w26 ⟨rfl, hi, hb, hk⟩; refine ⟨_, rfl, ?_⟩; have n0_ := Aside0.mk (Kd.R_mono (Kd.R_keep (IsS96.apart (show IsS96 w0 _ g s0_0 x1001_1 from z_97) (z_11) (z_5)) hk (fun _ h => h.2)) (fun _ h => h.1)); have n1_ := Aside0.mk (Kd.R_mono (Kd.R_keep (IsS96.apart (show IsS96 w0 _ g s0_0 x1001_1 from z_97) (z_111) (z_5)) hk (fun _ h => h.2)) (fun _ h => h.1)); have n2_ := Aside0.mk (KeepBut.trans (z_98) hk (.inl rfl)); have n3_ := Aside0.mk (hb); have n4_ := Aside0.mk (hi); clear HO_5; clear HO_10; clear HK; clear HB; clear HI0; have HO_5 := n0_; have HO_10 := n1_; have HK := n2_; have HB := n3_; have HI0 := n4_; clear n0_ n1_ n2_ n3_ n4_; (try clear hb); (try clear hb2); (try clear hk); (try clear hi)) | ((with_reducible refine gate_callee (f := 59) rfl ?_); refine goesL_ (some 33) rfl rfl Try.func59 (z_0) rfl #[.pointer (some ⟨g, 0, none⟩), .int .i64 1] rfl (z_14) ?_; (with_reducible refine (spec_l20Name.calls k1 g s0_0 t352 1 t353 t354 t355 t356 t357 t358 w0 _ ?side1 ?side2 A24.out).mono ?_); (case side1 => exact z_97); (case side2 => exact z_99); rintro e w27 ⟨rfl, hi, hb, hk⟩; refine ⟨_, rfl, ?_⟩; have n0_ := Aside0.mk (Kd.R_mono (Kd.R_keep (IsS96.apart (show IsS96 w0 _ g s0_0 t352 from z_97) (z_11) (z_5)) hk (fun _ h => h.2)) (fun _ h => h.1)); have n1_ := Aside0.mk (Kd.R_mono (Kd.R_keep (IsS96.apart (show IsS96 w0 _ g s0_0 t352 from z_97) (z_111) (z_5)) hk (fun _ h => h.2)) (fun _ h => h.1)); have n2_ := Aside0.mk (KeepBut.trans (z_98) hk (.inl rfl)); have n3_ := Aside0.mk (hb); have n4_ := Aside0.mk (hi); clear HO_5; clear HO_10; clear HK; clear HB; clear HI0; have HO_5 := n0_; have HO_10 := n1_; have HK := n2_; have HB := n3_; have HI0 := n4_; clear n0_ n1_ n2_ n3_ n4_; (try clear hb); (try clear hb2); (try clear hk); (try clear hi)) | ((with_reducible refine gate_builtin (b := .append) (xs := #[.tmp 31, .tmp 34]) rfl ?_); at_builtin; refine Kd.R_append k26 w.heap.size rfl (.tmp 31) (.tmp 34) 36 26 (.agg #[(.string ⟨#[]⟩), (.int .i64 0), (.int .i64 0), (.string ⟨#[]⟩), (.int .i64 0)]) 56 rfl Try.underlying36 info26 rfl (z_5) (z_6) u5 x5_1 (⟨t353, t354, t355, t356, t357⟩ : S26) [.string t353, .int .i64 t354, .int .i64 t355, .string t356, .int .i64 t357] (fun _ => True) (fun _ => False) rfl rfl ?aP (fun _ hk => hk.elim) ?aF ?aO (Below.refl _ _) ?aS ?aL ?_; (case aP => exact k26_mkM _ _ _ (⟨t353, t354, t355, t356, t357⟩ : S26)); (case aF => exact z_34); (case aO => exact z_113); (case aS => exact z_117); (case aL => have := LMc25.out; omega); intro v360 w28 ho hb hg hat; rw [← Ny359.out] at ho; have n0_ := Aside0.mk (Kd.R_over' (z_111) (Kd.R_typed (z_11)) (z_5) hg); have n1_ := Aside0.mk (IsS96.grown (z_97) hg (IsS96.own_ne HI0.out HO_5.out (z_5))); have n2_ := Aside0.mk (below_weaken (z_99) HL.out hb); have n3_ := Aside0.mk (KeepBut.trans (z_98) (KeepBut.of_grown hg g) (Kd.R_base2 HO_5.out)); have n4_ := Aside0.mk (ho); clear HO_10; clear HI0; clear HB; clear HK; clear HO_5; have HO_10 := n0_; have HI0 := n1_; have HB := n2_; have HK := n3_; have HO361 := n4_; clear n0_ n1_ n2_ n3_ n4_; clear ho hb hg hat))
      go_ret
      exact ⟨_, z_13, by (with_reducible repeat (first | apply Kd.R_alloc | apply Kd.R_drewN | apply Kd.R_drew)); exact HO361.out, z_97, z_99, z_98⟩
     ·rw [if_neg c25] at H
      exact absurd H (z_12)
    ·replace c23 := Bool.eq_false_iff.mpr c23
     subst c23
     rw [if_neg (show ¬ (false = true) by decide)] at H
     simp only [Option.some.injEq, Prod.mk.injEq] at H
     obtain ⟨rfl, rfl⟩ := H
     go_wp2_with (first | ((with_reducible refine gate_callee (f := 78) rfl ?_); refine goesL_ (some 30) rfl rfl Try.func78 (z_0) rfl #[.pointer (some ⟨g, 0, none⟩), .int .i64 a1] rfl (z_14) ?_; (with_reducible refine (spec_l20Rd_odd.calls k1 g s0_0 x1001_1 a1 false t352 w0 _ ?side1 ?side2 A22.out).mono ?_); (case side1 => exact z_97); (case side2 => exact z_99); rintro e w29 ⟨rfl, hi, hb, hk⟩; refine ⟨_, rfl, ?_⟩; have n0_ := Aside0.mk (Kd.R_mono (Kd.R_keep (IsS96.apart (show IsS96 w0 _ g s0_0 x1001_1 from z_97) (z_11) (z_5)) hk (fun _ h => h.2)) (fun _ h => h.1)); have n1_ := Aside0.mk (Kd.R_mono (Kd.R_keep (IsS96.apart (show IsS96 w0 _ g s0_0 x1001_1 from z_97) (z_111) (z_5)) hk (fun _ h => h.2)) (fun _ h => h.1)); have n2_ := Aside0.mk (KeepBut.trans (z_98) hk (.inl rfl)); have n3_ := Aside0.mk (hb); have n4_ := Aside0.mk (hi); clear HO_5; clear HO_10; clear HK; clear HB; clear HI0; have HO_5 := n0_; have HO_10 := n1_; have HK := n2_; have HB := n3_; have HI0 := n4_; clear n0_ n1_ n2_ n3_ n4_; (try clear hb); (try clear hb2); (try clear hk); (try clear hi)))
     go_ret
     exact ⟨_, z_13, z_11, z_97, z_99, z_98⟩

/-! ### spec_l20Kept: function 72 -/
mutual
def spec_l20Kept.l0 : Nat → List (S26) → Int → List (S83) → Int → List Int → Int → Option ((List (S83)) × Int)
 | 0, _, _, _, _, _, _ => none
 | k + 1, x1, x2, x7, x8, x1000, x1001 => if x8 > 0 then ((spec_l20Text.f k x1000 x1001).bind fun bt367 => ((spec_l20Rd_pick.f k x1000 bt367.2 20).bind fun bt369 => ((spec_KeptAsk.f k x7 x1 bt367.1 bt369.1).bind fun bt371 => (spec_l20Kept.l0 k x1 x2 bt371.1 (wrap64 (x8 - 1)) x1000 bt369.2)))) else (if (x7.length : Int) > 0 then ((spec_l20Rd_odd.f k x1000 x1001 x2).bind fun bt380 => (spec_l20Kept.j1 k x7 bt380.1 x1000 bt380.2)) else (spec_l20Kept.j1 k x7 false x1000 x1001))
def spec_l20Kept.j1 : Nat → List (S83) → Bool → List Int → Int → Option ((List (S83)) × Int)
 | 0, _, _, _, _ => none
 | k + 1, x7, x34, x1000, x1001 => if x34 = true then ((spec_l20Rd_pick.f k x1000 x1001 3).bind fun bt382 => (if bt382.1 = 0 then (if 0 < (x7.length : Int) then (if x7.length < 2199023255552 then (some ((x7 ++ [(⟨(⟨(rd_T83 x7 0).f0.f0, (rd_T83 x7 0).f0.f1, (rd_T83 x7 0).f0.f2, (rd_T83 x7 0).f0.f3, (rd_T83 x7 0).f0.f4⟩ : S26), (rd_T83 x7 0).f1⟩ : S83)]), bt382.2)) else (none)) else (none)) else (if bt382.1 = 1 then (if 0 < (x7.length : Int) then (some ((x7.set (0 : Int).toNat (⟨(⟨(rd_T83 x7 0).f0.f0, (rd_T83 x7 0).f0.f1, (rd_T83 x7 0).f0.f2, (rd_T83 x7 0).f0.f3, (rd_T83 x7 0).f0.f4⟩ : S26), (-1)⟩ : S83)), bt382.2)) else (none)) else (if 0 < (x7.length : Int) then (some ((x7.set (0 : Int).toNat (⟨(⟨(⟨#[]⟩ : ByteArray), (rd_T83 x7 0).f0.f1, (rd_T83 x7 0).f0.f2, (rd_T83 x7 0).f0.f3, (rd_T83 x7 0).f0.f4⟩ : S26), (rd_T83 x7 0).f1⟩ : S83)), bt382.2)) else (none))))) else (some (x7, x1001))
end
def spec_l20Kept.f (k : Nat) (s0_0 : List Int) (s0_1 : Int) (l1 : List (S26)) (a2 : Int) : Option ((List (S83)) × Int) := (spec_l20Rd_pick.f k s0_0 s0_1 9).bind fun bt365 => (spec_l20Kept.l0 k l1 a2 (([] : List (S83))) bt365.1 s0_0 bt365.2)
theorem spec_l20Kept.mono_l : ∀ k, (∀ y0 y1 y2 y3 y4 y5, LeO (spec_l20Kept.l0 k y0 y1 y2 y3 y4 y5) (spec_l20Kept.l0 (k + 1) y0 y1 y2 y3 y4 y5)) ∧ (∀ y0 y1 y2 y3, LeO (spec_l20Kept.j1 k y0 y1 y2 y3) (spec_l20Kept.j1 (k + 1) y0 y1 y2 y3))
 | 0 => ⟨fun _ _ _ _ _ _ r h => by simp [spec_l20Kept.l0] at h, fun _ _ _ _ r h => by simp [spec_l20Kept.j1] at h⟩
 | k + 1 => by
  obtain ⟨ih0, ih1⟩ := spec_l20Kept.mono_l k
  refine ⟨?_, ?_⟩
  ·intro y0 y1 y2 y3 y4 y5
   unfold spec_l20Kept.l0
   repeat' first
   | (with_reducible exact ih0 _ _ _ _ _ _)
   | (with_reducible exact ih1 _ _ _ _)
   | (with_reducible exact spec_KeptAsk.mono _ _ _ _ _)
   | (with_reducible exact spec_l20Rd_odd.mono _ _ _ _)
   | (with_reducible exact spec_l20Rd_pick.mono _ _ _ _)
   | (with_reducible exact spec_l20Text.mono _ _ _)
   | (with_reducible exact LeO.refl _)
   | (with_reducible exact LeO.none _)
   | (with_reducible refine LeO.ite ?_ ?_)
   | (with_reducible refine LeO.bind ?_ (fun _ => ?_))
   | exact ih0 _ _ _ _ _ _
   | exact ih1 _ _ _ _
   | exact spec_KeptAsk.mono _ _ _ _ _
   | exact spec_l20Rd_odd.mono _ _ _ _
   | exact spec_l20Rd_pick.mono _ _ _ _
   | exact spec_l20Text.mono _ _ _
   | exact LeO.none _
   | refine LeO.ite ?_ ?_
   | refine LeO.bind ?_ (fun _ => ?_)
  ·intro y0 y1 y2 y3
   unfold spec_l20Kept.j1
   repeat' first
   | (with_reducible exact ih0 _ _ _ _ _ _)
   | (with_reducible exact ih1 _ _ _ _)
   | (with_reducible exact spec_KeptAsk.mono _ _ _ _ _)
   | (with_reducible exact spec_l20Rd_odd.mono _ _ _ _)
   | (with_reducible exact spec_l20Rd_pick.mono _ _ _ _)
   | (with_reducible exact spec_l20Text.mono _ _ _)
   | (with_reducible exact LeO.refl _)
   | (with_reducible exact LeO.none _)
   | (with_reducible refine LeO.ite ?_ ?_)
   | (with_reducible refine LeO.bind ?_ (fun _ => ?_))
   | exact ih0 _ _ _ _ _ _
   | exact ih1 _ _ _ _
   | exact spec_KeptAsk.mono _ _ _ _ _
   | exact spec_l20Rd_odd.mono _ _ _ _
   | exact spec_l20Rd_pick.mono _ _ _ _
   | exact spec_l20Text.mono _ _ _
   | exact LeO.none _
   | refine LeO.ite ?_ ?_
   | refine LeO.bind ?_ (fun _ => ?_)
theorem spec_l20Kept.mono : ∀ a0 a1 a2 a3 k, LeO (spec_l20Kept.f k a0 a1 a2 a3) (spec_l20Kept.f (k + 1) a0 a1 a2 a3) := by
 intro a0 a1 a2 a3 k
 obtain ⟨ih0, ih1⟩ := spec_l20Kept.mono_l k
 unfold spec_l20Kept.f
 repeat' first
   | (with_reducible exact ih0 _ _ _ _ _ _)
   | (with_reducible exact ih1 _ _ _ _)
   | (with_reducible exact spec_KeptAsk.mono _ _ _ _ _)
   | (with_reducible exact spec_l20Rd_odd.mono _ _ _ _)
   | (with_reducible exact spec_l20Rd_pick.mono _ _ _ _)
   | (with_reducible exact spec_l20Text.mono _ _ _)
   | (with_reducible exact LeO.refl _)
   | (with_reducible exact LeO.none _)
   | (with_reducible refine LeO.ite ?_ ?_)
   | (with_reducible refine LeO.bind ?_ (fun _ => ?_))
   | exact ih0 _ _ _ _ _ _
   | exact ih1 _ _ _ _
   | exact spec_KeptAsk.mono _ _ _ _ _
   | exact spec_l20Rd_odd.mono _ _ _ _
   | exact spec_l20Rd_pick.mono _ _ _ _
   | exact spec_l20Text.mono _ _ _
   | exact LeO.none _
   | refine LeO.ite ?_ ?_
   | refine LeO.bind ?_ (fun _ => ?_)
set_option maxHeartbeats 8000000 in
set_option maxRecDepth 100000 in
theorem spec_l20Kept.calls (k : Nat) (g : Nat) (s0_0 : List Int) (s0_1 : Int) (A1 : Option Addr) (c1 : Nat) (l1 : List (S26)) (a2 : Int) (r1 : List (S83)) (r2 : Int) (w0 w : World) (hI : IsS96 w0 w g s0_0 s0_1) (hB : Below w0.heap.size w0 w) (hr1 : ∀ W_, KeepBut w W_ g none → Kd.C k26 W_ A1 l1.length l1) (hc1 : l1.length ≤ c1) (h : spec_l20Kept.f k s0_0 s0_1 l1 a2 = some (r1, r2)) :
  Calls Try.prog 72 #[.pointer (some ⟨g, 0, none⟩), .slice A1 l1.length c1, .int .i64 a2] w fun e w' => ∃ v0_ : Value, e = .returned (v0_) ∧ Kd.Q k83 83 w' w.heap.size (fun _ => True) v0_ r1 ∧ IsS96 w0 w' g s0_0 r2 ∧ Below w0.heap.size w0 w' ∧ KeepBut w w' g none := by
 have hu83 := Try.underlying83
 have HR1 := Aside0.mk hr1
 have HC1 := Aside0.mk hc1
 clear hr1 hc1
 have HI0 := Aside0.mk hI
 have HK := Aside0.mk (KeepBut.refl w g none)
 have HL := Aside0.mk hB.size
 clear hI
 have HW0 := Aside0.mk hB.size
 have HB := Aside0.mk hB
 clear hB
 have H : ((spec_l20Rd_pick.f k s0_0 s0_1 9).bind fun bt365 => (spec_l20Kept.l0 k l1 a2 (([] : List (S83))) bt365.1 s0_0 bt365.2)) = some (r1, r2) := h
 clear h
 obtain ⟨y362, hy362⟩ : ∃ y_ : List (S83), y_ = (([] : List (S83))) := ⟨_, rfl⟩
 replace H : ((spec_l20Rd_pick.f k s0_0 s0_1 9).bind fun bt365 => (spec_l20Kept.l0 k l1 a2 y362 bt365.1 s0_0 bt365.2)) = some (r1, r2) := by first | (rw [hy362]; with_reducible exact H) | (have H2_ := (Option.bind_some _ _).symm.trans H; rw [hy362]; with_reducible exact H2_) | (have H2_ := (Option.bind_some _ _).symm.trans H; with_reducible exact H2_) | with_reducible exact H | (rw [hy362]; exact H) | exact H
 have Ny362 := Aside0.mk hy362
 clear hy362
 replace H := Option.bind_eq_some_iff.mp H
 obtain ⟨⟨t365, t366⟩, A40, H⟩ := H
 replace H : (spec_l20Kept.l0 k l1 a2 y362 t365 s0_0 t366) = some (r1, r2) := H
 have A4 := Aside0.mk A40
 clear A40
 have H' := Aside0.mk H
 clear H
 go_enter Try.func72, Try.ntmps72
 go_wp2_with (first | ((with_reducible refine gate_dst (N := 9) rfl ?_); refine Kd.R_lit k83 _ 83 ?hg (N := 9) ?hd (xs := ([] : List (S83))) (inner := []) (ok := fun _ => True) (okp := fun _ => True) ?hr ?hp (fun _ hk => hk) trivial (Below.refl _ _) (Nat.le_refl _) (z_12) ?_; (case hd => rfl); (case hg => rfl); (case hr => exact z_9); (case hp => exact (Reps.none _ _)); intro v363 w5 ho6 hb hg_ hnew_; clear hg_ hnew_; (first | rw [← Ny362.out] at ho6 | (simp only [Int.reduceToNat] at ho6; rw [← Ny362.out] at ho6)); have n0_ := Aside0.mk (Kd.R_lower ho6 (keep_size (w := w) (g := g) (row := none) (z_98))); have n1_ := Aside0.mk (IsS96.below (z_97) hb); have n2_ := Aside0.mk (KeepBut.trans (z_98) (KeepBut.of_below hb g none) (.inl rfl)); have n3_ := Aside0.mk (below_step (z_99) hb); clear HI0; clear HK; clear HB; have HO364 := n0_; have HI0 := n1_; have HK := n2_; have HB := n3_; clear n0_ n1_ n2_ n3_; clear hb ho6) | ((with_reducible refine gate_callee (f := 69) rfl ?_); refine goesL_ (some 11) rfl rfl Try.func69 (z_0) rfl #[.pointer (some ⟨g, 0, none⟩), .int .i64 9] rfl (z_14) ?_; (with_reducible refine (spec_l20Rd_pick.calls k g s0_0 s0_1 9 t365 t366 w0 _ ?side1 ?side2 A4.out).mono ?_); (case side1 => exact z_97); (case side2 => exact z_99); rintro e w7 ⟨rfl, hi, hb, hk⟩; refine ⟨_, rfl, ?_⟩; have n0_ := Aside0.mk (Kd.R_mono (Kd.R_keep (IsS96.apart (show IsS96 w0 _ g s0_0 s0_1 from z_97) (z_118) (z_5)) hk (fun _ h => h.2)) (fun _ h => h.1)); have n1_ := Aside0.mk (KeepBut.trans (z_98) hk (.inl rfl)); have n2_ := Aside0.mk (hb); have n3_ := Aside0.mk (hi); clear HO364; clear HK; clear HB; clear HI0; have HO364 := n0_; have HK := n1_; have HB := n2_; have HI0 := n3_; clear n0_ n1_ n2_ n3_; (try clear hb); (try clear hb2); (try clear hk); (try clear hi)))
 go_loopg [7, 8] k (fun kq v7 v8 w' => ∃ (x7_1 : List (S83)) (x8_1 : Int) (x1001_1 : Int), v8 = .int .i64 x8_1 ∧ Aside0 (spec_l20Kept.l0 kq l1 a2 x7_1 x8_1 s0_0 x1001_1 = some (r1, r2)) ∧ Aside0 (kq ≤ k) ∧ Aside0 (Kd.Q k83 83 w' w.heap.size (fun _ => True) v7 x7_1) ∧ Aside0 (IsS96 w0 w' g s0_0 x1001_1) ∧ Aside0 (KeepBut w w' g none) ∧ Aside0 (Below w0.heap.size w0 w'))
 case atStart => exact ⟨(y362), (t365), (t366), (z_3), H', ⟨Nat.le_refl _⟩, ⟨Kd.Q_of_R (z_118)⟩, ⟨z_97⟩, ⟨z_98⟩, ⟨z_99⟩⟩
 case round =>
  clear H'
  try clear c1
  try clear p2
  try clear c6
  try clear c7
  obtain ⟨x7_1, x8_1, x1001_1, rfl, HA, HK1, HO_7, HI0, HK, HB⟩ := hrel
  cases gk with
  | zero => exact absurd HA.out (by simp [spec_l20Kept.l0])
  | succ k1 =>
   have H := HA.out
   clear HA
   simp only [spec_l20Kept.l0] at H
   by_cases c8 : x8_1 > 0
   ·rw [if_pos c8] at H
    have c8b0 : decide (0 < x8_1) = true := decide_eq_true c8
    clear c8
    replace H := Option.bind_eq_some_iff.mp H
    obtain ⟨⟨t367, t368⟩, A90, H⟩ := H
    replace H : ((spec_l20Rd_pick.f k1 s0_0 t368 20).bind fun bt369 => ((spec_KeptAsk.f k1 x7_1 l1 t367 bt369.1).bind fun bt371 => (spec_l20Kept.l0 k1 l1 a2 bt371.1 (wrap64 (x8_1 - 1)) s0_0 bt369.2))) = some (r1, r2) := H
    have A9 := Aside0.mk A90
    clear A90
    replace H := Option.bind_eq_some_iff.mp H
    obtain ⟨⟨t369, t370⟩, A100, H⟩ := H
    replace H : ((spec_KeptAsk.f k1 x7_1 l1 t367 t369).bind fun bt371 => (spec_l20Kept.l0 k1 l1 a2 bt371.1 (wrap64 (x8_1 - 1)) s0_0 t370)) = some (r1, r2) := H
    have A10 := Aside0.mk A100
    clear A100
    replace H := Option.bind_eq_some_iff.mp H
    obtain ⟨⟨t371, t374, t375, t376, t377, t378, t379⟩, A110, H⟩ := H
    replace H : (spec_l20Kept.l0 k1 l1 a2 t371 (wrap64 (x8_1 - 1)) s0_0 t370) = some (r1, r2) := H
    have A11 := Aside0.mk A110
    clear A110
    have H' := Aside0.mk H
    clear H
    go_wp2_with (first | ((with_reducible refine gate_callee (f := 68) rfl ?_); refine goesL_ (some 20) rfl rfl Try.func68 (z_0) rfl #[.pointer (some ⟨g, 0, none⟩)] rfl (z_14) ?_; (with_reducible refine (spec_l20Text.calls k1 g s0_0 x1001_1 t367 t368 w0 _ ?side1 ?side2 A9.out).mono ?_); (case side1 => exact z_97); (case side2 => exact z_99); rintro e w12 ⟨rfl, hi, hb, hk⟩; refine ⟨_, rfl, ?_⟩; have n0_ := Aside0.mk (Kd.Q_mono (Kd.Q_keep (IsS96.apartQ (show IsS96 w0 _ g s0_0 x1001_1 from z_97) (z_119) (z_5)) hk (fun _ h => h.2)) (fun _ h => h.1)); have n1_ := Aside0.mk (KeepBut.trans (z_98) hk (.inl rfl)); have n2_ := Aside0.mk (hb); have n3_ := Aside0.mk (hi); clear HO_7; clear HK; clear HB; clear HI0; have HO_7 := n0_; have HK := n1_; have HB := n2_; have HI0 := n3_; clear n0_ n1_ n2_ n3_; (try clear hb); (try clear hb2); (try clear hk); (try clear hi)) | ((with_reducible refine gate_callee (f := 69) rfl ?_); refine goesL_ (some 22) rfl rfl Try.func69 (z_0) rfl #[.pointer (some ⟨g, 0, none⟩), .int .i64 20] rfl (z_14) ?_; (with_reducible refine (spec_l20Rd_pick.calls k1 g s0_0 t368 20 t369 t370 w0 _ ?side1 ?side2 A10.out).mono ?_); (case side1 => exact z_97); (case side2 => exact z_99); rintro e w13 ⟨rfl, hi, hb, hk⟩; refine ⟨_, rfl, ?_⟩; have n0_ := Aside0.mk (Kd.Q_mono (Kd.Q_keep (IsS96.apartQ (show IsS96 w0 _ g s0_0 t368 from z_97) (z_119) (z_5)) hk (fun _ h => h.2)) (fun _ h => h.1)); have n1_ := Aside0.mk (KeepBut.trans (z_98) hk (.inl rfl)); have n2_ := Aside0.mk (hb); have n3_ := Aside0.mk (hi); clear HO_7; clear HK; clear HB; clear HI0; have HO_7 := n0_; have HK := n1_; have HB := n2_; have HI0 := n3_; clear n0_ n1_ n2_ n3_; (try clear hb); (try clear hb2); (try clear hk); (try clear hi); obtain ⟨Ao14, co14, eo14, _⟩ := Kd.Q_slice HO_7.out; subst eo14) | ((with_reducible refine gate_callee (f := 45) rfl ?_); refine goesL_ (some 23) rfl rfl Try.func45 (z_0) rfl #[.slice Ao14 x7_1.length co14, .slice A1 l1.length c1, .string t367, .int .i64 t369] rfl (z_14) ?_; (with_reducible refine (spec_KeptAsk.calls k1 _ _ x7_1 _ _ l1 t367 t369 t371 t374 t375 t376 t377 t378 t379 _ ?side1 ?side2 ?side3 ?side4 A11.out).mono ?_); (case side1 => repeat (first | exact (Kd.Q_reads' HO_7.out).2.2 | (with_reducible refine Kd.C_alloc ?_ _) | (with_reducible refine Kd.C_drewN ?_ _) | (with_reducible refine Kd.C_drew ?_))); (case side2 => exact (Kd.Q_reads' HO_7.out).2.1); (case side3 => exact Kd.C_foot_now HR1.out (z_98)); (case side4 => exact HC1.out); rintro e w15 ⟨v372, rfl, ho0, hb⟩; refine ⟨_, rfl, ?_⟩; have n0_ := Aside0.mk (Kd.Q_elder' (z_119) (Kd.Q_base ho0) hb); have n1_ := Aside0.mk (Kd.Q_lower (Kd.Q_new' ho0 (Kd.Q_lt (z_119))) (keep_size (w := w) (g := g) (row := none) (z_98))); have n2_ := Aside0.mk (IsS96.below (z_97) hb); have n3_ := Aside0.mk (KeepBut.trans (z_98) (KeepBut.of_below hb g none) (.inl rfl)); have n4_ := Aside0.mk (below_step (z_99) hb); clear HO_7; clear HI0; clear HK; clear HB; have HO_7 := n0_; have HO373 := n1_; have HI0 := n2_; have HK := n3_; have HB := n4_; clear n0_ n1_ n2_ n3_ n4_; (try clear hb); (try clear hb2); (try clear hk); (try clear hi); (try clear ho0)))
    go_roundg k1
    case measure => have := HK1.out; omega
    case rel => exact ⟨(t371), (wrap64 (x8_1 - 1)), (t370), (z_3), H', ⟨z_10⟩, ⟨by (with_reducible repeat (first | apply Kd.Q_alloc | apply Kd.Q_drewN | apply Kd.Q_drew)); exact Kd.Q_mono HO373.out (fun _ hk => trivial)⟩, ⟨z_97⟩, ⟨z_98⟩, ⟨z_99⟩⟩
   ·rw [if_neg c8] at H
    have c8b0 : decide (0 < x8_1) = false := decide_eq_false c8
    clear c8
    have HC16 := Aside0.mk H
    clear H
    go_upto_region 6 with (fail)
    go_cut [34] (fun v34 wc => ∃ (kq : Nat) (x34_15 : Bool) (x1001_15 : Int), v34 = .bool x34_15 ∧ Aside0 (spec_l20Kept.j1 kq x7_1 x34_15 s0_0 x1001_15 = some (r1, r2)) ∧ Aside0 (kq ≤ k1) ∧ Aside0 (Kd.Q k83 83 wc w.heap.size (fun _ => True) u7 x7_1) ∧ Aside0 (IsS96 w0 wc g s0_0 x1001_15) ∧ Aside0 (KeepBut w wc g none) ∧ Aside0 (Below w0.heap.size w0 wc))
    case first =>
     have H := HC16.out
     clear HC16
     by_cases c17 : (x7_1.length : Int) > 0
     ·rw [if_pos c17] at H
      have c17b0 : decide (0 < (x7_1.length : Int)) = true := decide_eq_true c17
      have c17b1 : decide (0 < x7_1.length) = true := decide_eq_true (z_6)
      clear c17
      (first | rw [c17b0] | (simp only [i64_w, i32_w]; rw [c17b0]) | skip)
      replace H := Option.bind_eq_some_iff.mp H
      obtain ⟨⟨t380, t381⟩, A180, H⟩ := H
      replace H : (spec_l20Kept.j1 k1 x7_1 t380 s0_0 t381) = some (r1, r2) := H
      have A18 := Aside0.mk A180
      clear A180
      have H' := Aside0.mk H
      clear H
      obtain ⟨Ao19, co19, eo19, _⟩ := Kd.Q_slice HO_7.out
      subst eo19
      go_wp2_with (first | (go_at_call 78; (with_reducible refine (spec_l20Rd_odd.calls k1 g s0_0 x1001_1 a2 t380 t381 w0 _ ?side1 ?side2 A18.out).mono ?_); (case side1 => exact z_97); (case side2 => exact z_99); rintro e w20 ⟨rfl, hi, hb, hk⟩; have n0_ := Aside0.mk (Kd.Q_mono (Kd.Q_keep (IsS96.apartQ (show IsS96 w0 _ g s0_0 x1001_1 from z_97) (z_119) (z_5)) hk (fun _ h => h.2)) (fun _ h => h.1)); have n1_ := Aside0.mk (KeepBut.trans (z_98) hk (.inl rfl)); have n2_ := Aside0.mk (hb); have n3_ := Aside0.mk (hi); clear HO_7; clear HK; clear HB; clear HI0; have HO_7 := n0_; have HK := n1_; have HB := n2_; have HI0 := n3_; clear n0_ n1_ n2_ n3_; (try clear hb); (try clear hb2); (try clear hk); (try clear hi)))
      go_meet
      case rel => exact ⟨_, (t380), (t381), (z_3), H', ⟨z_70⟩, ⟨z_119⟩, ⟨z_97⟩, ⟨z_98⟩, ⟨z_99⟩⟩
     ·rw [if_neg c17] at H
      have c17b0 : decide (0 < (x7_1.length : Int)) = false := decide_eq_false c17
      have c17b1 : decide (0 < x7_1.length) = false := decide_eq_false (z_6)
      clear c17
      (first | rw [c17b0] | (simp only [i64_w, i32_w]; rw [c17b0]) | skip)
      have H' := Aside0.mk H
      clear H
      obtain ⟨Ao21, co21, eo21, _⟩ := Kd.Q_slice HO_7.out
      subst eo21
      go_wp2
      go_meet
      case rel => exact ⟨_, (false), (x1001_1), (z_3), H', ⟨z_70⟩, ⟨z_119⟩, ⟨z_97⟩, ⟨z_98⟩, ⟨z_99⟩⟩
    case rest =>
     clear HC16
     try clear c1
     try clear p2
     try clear c4
     try clear c6
     try clear p6
     try clear c7
     try clear c8
     try clear c8b0
     try clear c17
     try clear c17b0
     try clear c17b1
     try clear p2
     obtain ⟨kq, x34_15, x1001_15, rfl, HA, HJ15, HO_7, HI0, HK, HB⟩ := hcut
     cases kq with
     | zero => exact absurd HA.out (by simp [spec_l20Kept.j1])
     | succ kj15 =>
      have H := HA.out
      clear HA
      simp only [spec_l20Kept.j1] at H
      by_cases c22 : x34_15 = true
      ·subst c22
       rw [if_pos rfl] at H
       replace H := Option.bind_eq_some_iff.mp H
       obtain ⟨⟨t382, t383⟩, A230, H⟩ := H
       replace H : (if t382 = 0 then (if 0 < (x7_1.length : Int) then (if x7_1.length < 2199023255552 then (some ((x7_1 ++ [(⟨(⟨(rd_T83 x7_1 0).f0.f0, (rd_T83 x7_1 0).f0.f1, (rd_T83 x7_1 0).f0.f2, (rd_T83 x7_1 0).f0.f3, (rd_T83 x7_1 0).f0.f4⟩ : S26), (rd_T83 x7_1 0).f1⟩ : S83)]), t383)) else (none)) else (none)) else (if t382 = 1 then (if 0 < (x7_1.length : Int) then (some ((x7_1.set (0 : Int).toNat (⟨(⟨(rd_T83 x7_1 0).f0.f0, (rd_T83 x7_1 0).f0.f1, (rd_T83 x7_1 0).f0.f2, (rd_T83 x7_1 0).f0.f3, (rd_T83 x7_1 0).f0.f4⟩ : S26), (-1)⟩ : S83)), t383)) else (none)) else (if 0 < (x7_1.length : Int) then (some ((x7_1.set (0 : Int).toNat (⟨(⟨(⟨#[]⟩ : ByteArray), (rd_T83 x7_1 0).f0.f1, (rd_T83 x7_1 0).f0.f2, (rd_T83 x7_1 0).f0.f3, (rd_T83 x7_1 0).f0.f4⟩ : S26), (rd_T83 x7_1 0).f1⟩ : S83)), t383)) else (none)))) = some (r1, r2) := H
       have A23 := Aside0.mk A230
       clear A230
       by_cases c24 : t382 = 0
       ·rw [if_pos c24] at H
        have c24b0 : (t382 == 0) = true := beq_iff_eq.mpr c24
        have c24b1 : (t382 != 0) = false := bne_eq_false_iff_eq.mpr c24
        clear c24
        by_cases c25 : 0 < (x7_1.length : Int)
        ·rw [if_pos c25] at H
         have c25b0 : decide (0 < (x7_1.length : Int)) = true := decide_eq_true c25
         have c25b1 : decide (0 < x7_1.length) = true := decide_eq_true (z_6)
         clear c25
         by_cases c26 : x7_1.length < 2199023255552
         ·rw [if_pos c26] at H
          have LMc26 := Aside0.mk c26
          clear c26
          obtain ⟨y385, hy385⟩ : ∃ y_ : List (S83), y_ = (x7_1 ++ [(⟨(⟨(rd_T83 x7_1 0).f0.f0, (rd_T83 x7_1 0).f0.f1, (rd_T83 x7_1 0).f0.f2, (rd_T83 x7_1 0).f0.f3, (rd_T83 x7_1 0).f0.f4⟩ : S26), (rd_T83 x7_1 0).f1⟩ : S83)]) := ⟨_, rfl⟩
          replace H : (some (y385, t383)) = some (r1, r2) := by first | (rw [hy385]; with_reducible exact H) | (have H2_ := (Option.bind_some _ _).symm.trans H; rw [hy385]; with_reducible exact H2_) | (have H2_ := (Option.bind_some _ _).symm.trans H; with_reducible exact H2_) | with_reducible exact H | (rw [hy385]; exact H) | exact H
          have Ny385 := Aside0.mk hy385
          clear hy385
          simp only [Option.some.injEq, Prod.mk.injEq] at H
          obtain ⟨rfl, rfl⟩ := H
          go_wp2_with (first | ((with_reducible refine gate_callee (f := 69) rfl ?_); refine goesL_ (some 36) rfl rfl Try.func69 (z_0) rfl #[.pointer (some ⟨g, 0, none⟩), .int .i64 3] rfl (z_14) ?_; (with_reducible refine (spec_l20Rd_pick.calls kj15 g s0_0 x1001_15 3 t382 t383 w0 _ ?side1 ?side2 A23.out).mono ?_); (case side1 => exact z_97); (case side2 => exact z_99); rintro e w27 ⟨rfl, hi, hb, hk⟩; refine ⟨_, rfl, ?_⟩; have n0_ := Aside0.mk (Kd.Q_mono (Kd.Q_keep (IsS96.apartQ (show IsS96 w0 _ g s0_0 x1001_15 from z_97) (z_119) (z_5)) hk (fun _ h => h.2)) (fun _ h => h.1)); have n1_ := Aside0.mk (KeepBut.trans (z_98) hk (.inl rfl)); have n2_ := Aside0.mk (hb); have n3_ := Aside0.mk (hi); clear HO_7; clear HK; clear HB; clear HI0; have HO_7 := n0_; have HK := n1_; have HB := n2_; have HI0 := n3_; clear n0_ n1_ n2_ n3_; (try clear hb); (try clear hb2); (try clear hk); (try clear hi); obtain ⟨Ao28, co28, eo28, _⟩ := Kd.Q_slice HO_7.out; subst eo28; have p384 : 0 ≤ (0 : Int) := (z_6); have q384 : 0 < (x7_1.length : Int) := of_decide_eq_true (z_7); obtain ⟨ad384, e384, hx384_0, hx384_1, hx384_2, hx384_3, hx384_4, hx384_5⟩ := at_T83 (Kd.Q_reads' HO_7.out).2.2 0 p384 q384; cases e384; have qi384 : (0 < x7_1.length) = True := eq_true (z_6); (try rw [show ((0 : Int)).toNat = 0 from rfl] at hx384_0); (try rw [show 0 * 6 = 0 from rfl] at hx384_0); (try rw [Addr.add_zero'] at hx384_0); (try rw [show ((0 : Int)).toNat = 0 from rfl] at hx384_1); (try rw [show 0 * 6 = 0 from rfl] at hx384_1); (try rw [Addr.add_zero'] at hx384_1); (try rw [show ((0 : Int)).toNat = 0 from rfl] at hx384_2); (try rw [show 0 * 6 = 0 from rfl] at hx384_2); (try rw [Addr.add_zero'] at hx384_2); (try rw [show ((0 : Int)).toNat = 0 from rfl] at hx384_3); (try rw [show 0 * 6 = 0 from rfl] at hx384_3); (try rw [Addr.add_zero'] at hx384_3); (try rw [show ((0 : Int)).toNat = 0 from rfl] at hx384_4); (try rw [show 0 * 6 = 0 from rfl] at hx384_4); (try rw [Addr.add_zero'] at hx384_4); (try rw [show ((0 : Int)).toNat = 0 from rfl] at hx384_5); (try rw [show 0 * 6 = 0 from rfl] at hx384_5); (try rw [Addr.add_zero'] at hx384_5); replace p384 := eq_true p384; replace q384 := eq_true q384) | ((with_reducible refine gate_builtin (b := .append) (xs := #[.tmp 43, .tmp 47]) rfl ?_); at_builtin; refine Kd.Q_append k83 w.heap.size rfl (.tmp 43) (.tmp 47) 48 83 (.agg #[(.string ⟨#[]⟩), (.int .i64 0), (.int .i64 0), (.string ⟨#[]⟩), (.int .i64 0), (.int .i64 0)]) 64 rfl Try.underlying48 info83 rfl (z_5) (z_6) (.slice (some ad384) x7_1.length co28) x7_1 (⟨(⟨(rd_T83 x7_1 0).f0.f0, (rd_T83 x7_1 0).f0.f1, (rd_T83 x7_1 0).f0.f2, (rd_T83 x7_1 0).f0.f3, (rd_T83 x7_1 0).f0.f4⟩ : S26), (rd_T83 x7_1 0).f1⟩ : S83) [.string ((rd_T83 x7_1 0).f0.f0), .int .i64 ((rd_T83 x7_1 0).f0.f1), .int .i64 ((rd_T83 x7_1 0).f0.f2), .string ((rd_T83 x7_1 0).f0.f3), .int .i64 ((rd_T83 x7_1 0).f0.f4), .int .i64 ((rd_T83 x7_1 0).f1)] (fun _ => True) (fun _ => False) rfl rfl ?aP (fun _ hk => hk.elim) ?aF ?aO (Below.refl _ _) ?aS ?aL ?_; (case aP => exact k83_mkM _ _ _ (⟨(⟨(rd_T83 x7_1 0).f0.f0, (rd_T83 x7_1 0).f0.f1, (rd_T83 x7_1 0).f0.f2, (rd_T83 x7_1 0).f0.f3, (rd_T83 x7_1 0).f0.f4⟩ : S26), (rd_T83 x7_1 0).f1⟩ : S83)); (case aF => exact z_34); (case aO => exact (z_119)); (case aS => exact z_117); (case aL => have := LMc26.out; omega); intro v386 w29 ho hb hg hat; rw [← Ny385.out] at ho; have n0_ := Aside0.mk (IsS96.grown (z_97) hg (IsS96.own_neQ HI0.out HO_7.out (z_5))); have n1_ := Aside0.mk (below_weaken (z_99) HL.out hb); have n2_ := Aside0.mk (KeepBut.trans (z_98) (KeepBut.of_grown hg g) (Kd.Q_base2 HO_7.out)); have n3_ := Aside0.mk (ho); clear HI0; clear HB; clear HK; clear HO_7; have HI0 := n0_; have HB := n1_; have HK := n2_; have HO387 := n3_; clear n0_ n1_ n2_ n3_; clear ho hb hg hat))
          go_ret
          exact ⟨_, z_13, by (with_reducible repeat (first | apply Kd.Q_alloc | apply Kd.Q_drewN | apply Kd.Q_drew)); exact HO387.out, z_97, z_99, z_98⟩
         ·rw [if_neg c26] at H
          exact absurd H (z_12)
        ·rw [if_neg c25] at H
         exact absurd H (z_12)
       ·rw [if_neg c24] at H
        have c24b0 : (t382 == 0) = false := beq_eq_false_iff_ne.mpr c24
        have c24b1 : (t382 != 0) = true := bne_iff_ne.mpr c24
        by_cases c30 : t382 = 1
        ·rw [if_pos c30] at H
         have c30b0 : (t382 == 1) = true := beq_iff_eq.mpr c30
         have c30b1 : (t382 != 1) = false := bne_eq_false_iff_eq.mpr c30
         clear c30
         by_cases c31 : 0 < (x7_1.length : Int)
         ·rw [if_pos c31] at H
          have c31b0 : decide (0 < (x7_1.length : Int)) = true := decide_eq_true c31
          have c31b1 : decide (0 < x7_1.length) = true := decide_eq_true (z_6)
          clear c31
          obtain ⟨y388, hy388⟩ : ∃ y_ : List (S83), y_ = (x7_1.set (0 : Int).toNat (⟨(⟨(rd_T83 x7_1 0).f0.f0, (rd_T83 x7_1 0).f0.f1, (rd_T83 x7_1 0).f0.f2, (rd_T83 x7_1 0).f0.f3, (rd_T83 x7_1 0).f0.f4⟩ : S26), (-1)⟩ : S83)) := ⟨_, rfl⟩
          replace H : (some (y388, t383)) = some (r1, r2) := by first | (rw [hy388]; with_reducible exact H) | (have H2_ := (Option.bind_some _ _).symm.trans H; rw [hy388]; with_reducible exact H2_) | (have H2_ := (Option.bind_some _ _).symm.trans H; with_reducible exact H2_) | with_reducible exact H | (rw [hy388]; exact H) | exact H
          have Ny388 := Aside0.mk hy388
          clear hy388
          simp only [Option.some.injEq, Prod.mk.injEq] at H
          obtain ⟨rfl, rfl⟩ := H
          go_wp2_with (first | ((with_reducible refine gate_callee (f := 69) rfl ?_); refine goesL_ (some 36) rfl rfl Try.func69 (z_0) rfl #[.pointer (some ⟨g, 0, none⟩), .int .i64 3] rfl (z_14) ?_; (with_reducible refine (spec_l20Rd_pick.calls kj15 g s0_0 x1001_15 3 t382 t383 w0 _ ?side1 ?side2 A23.out).mono ?_); (case side1 => exact z_97); (case side2 => exact z_99); rintro e w33 ⟨rfl, hi, hb, hk⟩; refine ⟨_, rfl, ?_⟩; have n0_ := Aside0.mk (Kd.Q_mono (Kd.Q_keep (IsS96.apartQ (show IsS96 w0 _ g s0_0 x1001_15 from z_97) (z_119) (z_5)) hk (fun _ h => h.2)) (fun _ h => h.1)); have n1_ := Aside0.mk (KeepBut.trans (z_98) hk (.inl rfl)); have n2_ := Aside0.mk (hb); have n3_ := Aside0.mk (hi); clear HO_7; clear HK; clear HB; clear HI0; have HO_7 := n0_; have HK := n1_; have HB := n2_; have HI0 := n3_; clear n0_ n1_ n2_ n3_; (try clear hb); (try clear hb2); (try clear hk); (try clear hi); have p32 : 0 ≤ (0 : Int) := (z_6); have q32 : (0 : Int) < ((x7_1.length : Int) : Int) := of_decide_eq_true (z_7); have qi32 : (0 < x7_1.length) = True := eq_true (z_6); obtain ⟨go32, oo32, co32, eo32, gb32, gl32, cl32, HG32⟩ := Kd.Q_form HO_7.out (z_6); (first | cases eo32 | (injection eo32 with ea_ en_ ec_; (first | subst ea_ | (injection ea_ with ea_; subst ea_)); subst ec_; clear en_)); have GB32 := Aside0.mk gb32; have GG32 := Aside0.mk HG32; clear gb32 gl32 HG32; obtain ⟨ce32, hcl32, hM32, hcc32, hfr32⟩ := Kd.Q_elem HO_7.out z83 (0 : Int) p32 q32; obtain rfl := k83_openM hM32; have hx32_0 : w33.cell? ⟨go32, oo32 + (0 : Int).toNat * 6, none⟩ = some (.string ((rd_T83 x7_1 0).f0.f0)) := hcc32 0 _ rfl; have hx32_1 : w33.cell? ⟨go32, oo32 + (0 : Int).toNat * 6 + 1, none⟩ = some (.int .i64 ((rd_T83 x7_1 0).f0.f1)) := hcc32 1 _ rfl; have hx32_2 : w33.cell? ⟨go32, oo32 + (0 : Int).toNat * 6 + 2, none⟩ = some (.int .i64 ((rd_T83 x7_1 0).f0.f2)) := hcc32 2 _ rfl; have hx32_3 : w33.cell? ⟨go32, oo32 + (0 : Int).toNat * 6 + 3, none⟩ = some (.string ((rd_T83 x7_1 0).f0.f3)) := hcc32 3 _ rfl; have hx32_4 : w33.cell? ⟨go32, oo32 + (0 : Int).toNat * 6 + 4, none⟩ = some (.int .i64 ((rd_T83 x7_1 0).f0.f4)) := hcc32 4 _ rfl; have hx32_5 : w33.cell? ⟨go32, oo32 + (0 : Int).toNat * 6 + 5, none⟩ = some (.int .i64 ((rd_T83 x7_1 0).f1)) := hcc32 5 _ rfl; have hf32_0 : w33.frozen? ⟨go32, oo32 + (0 : Int).toNat * 6, none⟩ = false := hfr32 0; have hf32_1 : w33.frozen? ⟨go32, oo32 + (0 : Int).toNat * 6 + 1, none⟩ = false := hfr32 1; have hf32_2 : w33.frozen? ⟨go32, oo32 + (0 : Int).toNat * 6 + 2, none⟩ = false := hfr32 2; have hf32_3 : w33.frozen? ⟨go32, oo32 + (0 : Int).toNat * 6 + 3, none⟩ = false := hfr32 3; have hf32_4 : w33.frozen? ⟨go32, oo32 + (0 : Int).toNat * 6 + 4, none⟩ = false := hfr32 4; have hf32_5 : w33.frozen? ⟨go32, oo32 + (0 : Int).toNat * 6 + 5, none⟩ = false := hfr32 5; clear hcl32 hcc32 hfr32 hM32; (try rw [show ((0 : Int)).toNat = 0 from rfl] at hx32_0); (try simp only [Nat.reduceMul, Nat.zero_mul, Nat.zero_add, Nat.reduceAdd] at hx32_0); (try rw [show ((0 : Int)).toNat = 0 from rfl] at hf32_0); (try simp only [Nat.reduceMul, Nat.zero_mul, Nat.zero_add, Nat.reduceAdd] at hf32_0); (try rw [show ((0 : Int)).toNat = 0 from rfl] at hx32_1); (try simp only [Nat.reduceMul, Nat.zero_mul, Nat.zero_add, Nat.reduceAdd] at hx32_1); (try rw [show ((0 : Int)).toNat = 0 from rfl] at hf32_1); (try simp only [Nat.reduceMul, Nat.zero_mul, Nat.zero_add, Nat.reduceAdd] at hf32_1); (try rw [show ((0 : Int)).toNat = 0 from rfl] at hx32_2); (try simp only [Nat.reduceMul, Nat.zero_mul, Nat.zero_add, Nat.reduceAdd] at hx32_2); (try rw [show ((0 : Int)).toNat = 0 from rfl] at hf32_2); (try simp only [Nat.reduceMul, Nat.zero_mul, Nat.zero_add, Nat.reduceAdd] at hf32_2); (try rw [show ((0 : Int)).toNat = 0 from rfl] at hx32_3); (try simp only [Nat.reduceMul, Nat.zero_mul, Nat.zero_add, Nat.reduceAdd] at hx32_3); (try rw [show ((0 : Int)).toNat = 0 from rfl] at hf32_3); (try simp only [Nat.reduceMul, Nat.zero_mul, Nat.zero_add, Nat.reduceAdd] at hf32_3); (try rw [show ((0 : Int)).toNat = 0 from rfl] at hx32_4); (try simp only [Nat.reduceMul, Nat.zero_mul, Nat.zero_add, Nat.reduceAdd] at hx32_4); (try rw [show ((0 : Int)).toNat = 0 from rfl] at hf32_4); (try simp only [Nat.reduceMul, Nat.zero_mul, Nat.zero_add, Nat.reduceAdd] at hf32_4); (try rw [show ((0 : Int)).toNat = 0 from rfl] at hx32_5); (try simp only [Nat.reduceMul, Nat.zero_mul, Nat.zero_add, Nat.reduceAdd] at hx32_5); (try rw [show ((0 : Int)).toNat = 0 from rfl] at hf32_5); (try simp only [Nat.reduceMul, Nat.zero_mul, Nat.zero_add, Nat.reduceAdd] at hf32_5); replace p32 := eq_true p32; replace q32 := eq_true q32; have HX34 := Aside0.mk (show Kd.Q k83 83 w33 w.heap.size (fun _ => True) (.slice (some ⟨go32, oo32, none⟩) x7_1.length co32) x7_1 from (z_119)); obtain ⟨ce34, hcl34, hM34, hcc34, hfr34⟩ := Kd.Q_elem HX34.out z83 (0 : Int) (z_6) (z_120); obtain rfl := k83_openM hM34; have HP34 := Kd.Q_seg HX34.out (0 : Int) (z_6) (z_120) (seg := [.int .i64 (-1)]) (j := 5) hcl34 hcc34 (show 6 ≤ 6 from z_5) (x' := (⟨(⟨(rd_T83 x7_1 0).f0.f0, (rd_T83 x7_1 0).f0.f1, (rd_T83 x7_1 0).f0.f2, (rd_T83 x7_1 0).f0.f3, (rd_T83 x7_1 0).f0.f4⟩ : S26), (-1)⟩ : S83)) (k83_mkM _ _ _ (⟨(⟨(rd_T83 x7_1 0).f0.f0, (rd_T83 x7_1 0).f0.f1, (rd_T83 x7_1 0).f0.f2, (rd_T83 x7_1 0).f0.f3, (rd_T83 x7_1 0).f0.f4⟩ : S26), (-1)⟩ : S83) ) (fun _ hk => hk); have hx34_5 := hcc34 5 _ rfl; (try simp only [show (k83).sz = 6 from rfl, Nat.mul_one, Nat.add_zero] at hx34_5); (try rw [show ((0 : Int)).toNat = 0 from rfl] at hx34_5); (try simp only [Nat.reduceMul, Nat.zero_mul, Nat.zero_add, Nat.reduceAdd] at hx34_5); have hf34_5 := hfr34 5; (try simp only [show (k83).sz = 6 from rfl, Nat.mul_one, Nat.add_zero] at hf34_5); (try rw [show ((0 : Int)).toNat = 0 from rfl] at hf34_5); (try simp only [Nat.reduceMul, Nat.zero_mul, Nat.zero_add, Nat.reduceAdd] at hf34_5); clear hcl34 hcc34 hfr34 hM34) | ((with_reducible refine gate_store (t := 3) (p := 53) rfl ?_); refine store_event (t := 3) (p := 53) (v := ?vo_w35) (w1 := (w33.setCell ⟨go32, oo32 + 5, none⟩ (.int .i64 (-1)))) ?hg ?ho ?hn ?hr ?_; (case ho => rfl); (case hg => rfl); (case hn => rfl); (case hr => exact z_9); intro w35 hw; have hg : w33.grownBy w35 (some go32) := (by rw [hw]; exact HP34.2); have hp_ : Kd.Q k83 83 w35 w.heap.size (fun _ => True) (.slice (some ⟨go32, oo32, none⟩) x7_1.length co32) y388 := (by rw [hw, Ny388.out]; exact HP34.1); clear HP34; have n0_ := Aside0.mk (hp_); have n1_ := Aside0.mk (IsS96.grown (z_97) hg (IsS96.own_neQ HI0.out HO_7.out (z_5))); have n2_ := Aside0.mk ((by rw [hw]; exact below_set (HB.out) (Nat.le_trans HL.out GB32.out) : Below w0.heap.size w0 w35)); have n3_ := Aside0.mk (KeepBut.trans (z_98) (KeepBut.of_grown hg g) (Kd.Q_base2 HO_7.out)); clear HO_7; clear HI0; clear HB; clear HK; have HO_7 := n0_; have HI0 := n1_; have HB := n2_; have HK := n3_; clear n0_ n1_ n2_ n3_; clear hg hw hp_))
          go_ret
          exact ⟨_, z_13, z_119, z_97, z_99, z_98⟩
         ·rw [if_neg c31] at H
          exact absurd H (z_12)
        ·rw [if_neg c30] at H
         have c30b0 : (t382 == 1) = false := beq_eq_false_iff_ne.mpr c30
         have c30b1 : (t382 != 1) = true := bne_iff_ne.mpr c30
         by_cases c36 : 0 < (x7_1.length : Int)
         ·rw [if_pos c36] at H
          have c36b0 : decide (0 < (x7_1.length : Int)) = true := decide_eq_true c36
          have c36b1 : decide (0 < x7_1.length) = true := decide_eq_true (z_6)
          clear c36
          obtain ⟨y389, hy389⟩ : ∃ y_ : List (S83), y_ = (x7_1.set (0 : Int).toNat (⟨(⟨(⟨#[]⟩ : ByteArray), (rd_T83 x7_1 0).f0.f1, (rd_T83 x7_1 0).f0.f2, (rd_T83 x7_1 0).f0.f3, (rd_T83 x7_1 0).f0.f4⟩ : S26), (rd_T83 x7_1 0).f1⟩ : S83)) := ⟨_, rfl⟩
          replace H : (some (y389, t383)) = some (r1, r2) := by first | (rw [hy389]; with_reducible exact H) | (have H2_ := (Option.bind_some _ _).symm.trans H; rw [hy389]; with_reducible exact H2_) | (have H2_ := (Option.bind_some _ _).symm.trans H; with_reducible exact H2_) | with_reducible exact H | (rw [hy389]; exact H) | exact H
          have Ny389 := Aside0.mk hy389
          clear hy389
          simp only [Option.some.injEq, Prod.mk.injEq] at H
          obtain ⟨rfl, rfl⟩ := H
          go_wp2_with (first | ((with_reducible refine gate_callee (f := 69) rfl ?_); refine goesL_ (some 36) rfl rfl Try.func69 (z_0) rfl #[.pointer (some ⟨g, 0, none⟩), .int .i64 3] rfl (z_14) ?_; (with_reducible refine (spec_l20Rd_pick.calls kj15 g s0_0 x1001_15 3 t382 t383 w0 _ ?side1 ?side2 A23.out).mono ?_); (case side1 => exact z_97); (case side2 => exact z_99); rintro e w38 ⟨rfl, hi, hb, hk⟩; refine ⟨_, rfl, ?_⟩; have n0_ := Aside0.mk (Kd.Q_mono (Kd.Q_keep (IsS96.apartQ (show IsS96 w0 _ g s0_0 x1001_15 from z_97) (z_119) (z_5)) hk (fun _ h => h.2)) (fun _ h => h.1)); have n1_ := Aside0.mk (KeepBut.trans (z_98) hk (.inl rfl)); have n2_ := Aside0.mk (hb); have n3_ := Aside0.mk (hi); clear HO_7; clear HK; clear HB; clear HI0; have HO_7 := n0_; have HK := n1_; have HB := n2_; have HI0 := n3_; clear n0_ n1_ n2_ n3_; (try clear hb); (try clear hb2); (try clear hk); (try clear hi); have p37 : 0 ≤ (0 : Int) := (z_6); have q37 : (0 : Int) < ((x7_1.length : Int) : Int) := of_decide_eq_true (z_7); have qi37 : (0 < x7_1.length) = True := eq_true (z_6); obtain ⟨go37, oo37, co37, eo37, gb37, gl37, cl37, HG37⟩ := Kd.Q_form HO_7.out (z_6); (first | cases eo37 | (injection eo37 with ea_ en_ ec_; (first | subst ea_ | (injection ea_ with ea_; subst ea_)); subst ec_; clear en_)); have GB37 := Aside0.mk gb37; have GG37 := Aside0.mk HG37; clear gb37 gl37 HG37; obtain ⟨ce37, hcl37, hM37, hcc37, hfr37⟩ := Kd.Q_elem HO_7.out z83 (0 : Int) p37 q37; obtain rfl := k83_openM hM37; have hx37_0 : w38.cell? ⟨go37, oo37 + (0 : Int).toNat * 6, none⟩ = some (.string ((rd_T83 x7_1 0).f0.f0)) := hcc37 0 _ rfl; have hx37_1 : w38.cell? ⟨go37, oo37 + (0 : Int).toNat * 6 + 1, none⟩ = some (.int .i64 ((rd_T83 x7_1 0).f0.f1)) := hcc37 1 _ rfl; have hx37_2 : w38.cell? ⟨go37, oo37 + (0 : Int).toNat * 6 + 2, none⟩ = some (.int .i64 ((rd_T83 x7_1 0).f0.f2)) := hcc37 2 _ rfl; have hx37_3 : w38.cell? ⟨go37, oo37 + (0 : Int).toNat * 6 + 3, none⟩ = some (.string ((rd_T83 x7_1 0).f0.f3)) := hcc37 3 _ rfl; have hx37_4 : w38.cell? ⟨go37, oo37 + (0 : Int).toNat * 6 + 4, none⟩ = some (.int .i64 ((rd_T83 x7_1 0).f0.f4)) := hcc37 4 _ rfl; have hx37_5 : w38.cell? ⟨go37, oo37 + (0 : Int).toNat * 6 + 5, none⟩ = some (.int .i64 ((rd_T83 x7_1 0).f1)) := hcc37 5 _ rfl; have hf37_0 : w38.frozen? ⟨go37, oo37 + (0 : Int).toNat * 6, none⟩ = false := hfr37 0; have hf37_1 : w38.frozen? ⟨go37, oo37 + (0 : Int).toNat * 6 + 1, none⟩ = false := hfr37 1; have hf37_2 : w38.frozen? ⟨go37, oo37 + (0 : Int).toNat * 6 + 2, none⟩ = false := hfr37 2; have hf37_3 : w38.frozen? ⟨go37, oo37 + (0 : Int).toNat * 6 + 3, none⟩ = false := hfr37 3; have hf37_4 : w38.frozen? ⟨go37, oo37 + (0 : Int).toNat * 6 + 4, none⟩ = false := hfr37 4; have hf37_5 : w38.frozen? ⟨go37, oo37 + (0 : Int).toNat * 6 + 5, none⟩ = false := hfr37 5; clear hcl37 hcc37 hfr37 hM37; (try rw [show ((0 : Int)).toNat = 0 from rfl] at hx37_0); (try simp only [Nat.reduceMul, Nat.zero_mul, Nat.zero_add, Nat.reduceAdd] at hx37_0); (try rw [show ((0 : Int)).toNat = 0 from rfl] at hf37_0); (try simp only [Nat.reduceMul, Nat.zero_mul, Nat.zero_add, Nat.reduceAdd] at hf37_0); (try rw [show ((0 : Int)).toNat = 0 from rfl] at hx37_1); (try simp only [Nat.reduceMul, Nat.zero_mul, Nat.zero_add, Nat.reduceAdd] at hx37_1); (try rw [show ((0 : Int)).toNat = 0 from rfl] at hf37_1); (try simp only [Nat.reduceMul, Nat.zero_mul, Nat.zero_add, Nat.reduceAdd] at hf37_1); (try rw [show ((0 : Int)).toNat = 0 from rfl] at hx37_2); (try simp only [Nat.reduceMul, Nat.zero_mul, Nat.zero_add, Nat.reduceAdd] at hx37_2); (try rw [show ((0 : Int)).toNat = 0 from rfl] at hf37_2); (try simp only [Nat.reduceMul, Nat.zero_mul, Nat.zero_add, Nat.reduceAdd] at hf37_2); (try rw [show ((0 : Int)).toNat = 0 from rfl] at hx37_3); (try simp only [Nat.reduceMul, Nat.zero_mul, Nat.zero_add, Nat.reduceAdd] at hx37_3); (try rw [show ((0 : Int)).toNat = 0 from rfl] at hf37_3); (try simp only [Nat.reduceMul, Nat.zero_mul, Nat.zero_add, Nat.reduceAdd] at hf37_3); (try rw [show ((0 : Int)).toNat = 0 from rfl] at hx37_4); (try simp only [Nat.reduceMul, Nat.zero_mul, Nat.zero_add, Nat.reduceAdd] at hx37_4); (try rw [show ((0 : Int)).toNat = 0 from rfl] at hf37_4); (try simp only [Nat.reduceMul, Nat.zero_mul, Nat.zero_add, Nat.reduceAdd] at hf37_4); (try rw [show ((0 : Int)).toNat = 0 from rfl] at hx37_5); (try simp only [Nat.reduceMul, Nat.zero_mul, Nat.zero_add, Nat.reduceAdd] at hx37_5); (try rw [show ((0 : Int)).toNat = 0 from rfl] at hf37_5); (try simp only [Nat.reduceMul, Nat.zero_mul, Nat.zero_add, Nat.reduceAdd] at hf37_5); replace p37 := eq_true p37; replace q37 := eq_true q37; have HX39 := Aside0.mk (show Kd.Q k83 83 w38 w.heap.size (fun _ => True) (.slice (some ⟨go37, oo37, none⟩) x7_1.length co37) x7_1 from (z_119)); obtain ⟨ce39, hcl39, hM39, hcc39, hfr39⟩ := Kd.Q_elem HX39.out z83 (0 : Int) (z_6) (z_120); obtain rfl := k83_openM hM39; have HP39 := Kd.Q_seg HX39.out (0 : Int) (z_6) (z_120) (seg := [.string (⟨#[]⟩ : ByteArray)]) (j := 0) hcl39 hcc39 (show 1 ≤ 6 from z_5) (x' := (⟨(⟨(⟨#[]⟩ : ByteArray), (rd_T83 x7_1 0).f0.f1, (rd_T83 x7_1 0).f0.f2, (rd_T83 x7_1 0).f0.f3, (rd_T83 x7_1 0).f0.f4⟩ : S26), (rd_T83 x7_1 0).f1⟩ : S83)) (k83_mkM _ _ _ (⟨(⟨(⟨#[]⟩ : ByteArray), (rd_T83 x7_1 0).f0.f1, (rd_T83 x7_1 0).f0.f2, (rd_T83 x7_1 0).f0.f3, (rd_T83 x7_1 0).f0.f4⟩ : S26), (rd_T83 x7_1 0).f1⟩ : S83) ) (fun _ hk => hk); have hx39_0 := hcc39 0 _ rfl; (try simp only [show (k83).sz = 6 from rfl, Nat.mul_one, Nat.add_zero] at hx39_0); (try rw [show ((0 : Int)).toNat = 0 from rfl] at hx39_0); (try simp only [Nat.reduceMul, Nat.zero_mul, Nat.zero_add, Nat.reduceAdd] at hx39_0); have hf39_0 := hfr39 0; (try simp only [show (k83).sz = 6 from rfl, Nat.mul_one, Nat.add_zero] at hf39_0); (try rw [show ((0 : Int)).toNat = 0 from rfl] at hf39_0); (try simp only [Nat.reduceMul, Nat.zero_mul, Nat.zero_add, Nat.reduceAdd] at hf39_0); clear hcl39 hcc39 hfr39 hM39; (try simp only [Nat.add_zero] at hx39_0 hf39_0)) | ((with_reducible refine gate_store (t := 9) (p := 40) rfl ?_); refine store_event (t := 9) (p := 40) (v := ?vo_w40) (w1 := (w38.setCell ⟨go37, oo37, none⟩ (.string (⟨#[]⟩ : ByteArray)))) ?hg ?ho ?hn ?hr ?_; (case ho => rfl); (case hg => rfl); (case hn => rfl); (case hr => exact z_9); intro w40 hw; have hg : w38.grownBy w40 (some go37) := (by rw [hw]; exact HP39.2); have hp_ : Kd.Q k83 83 w40 w.heap.size (fun _ => True) (.slice (some ⟨go37, oo37, none⟩) x7_1.length co37) y389 := (by rw [hw, Ny389.out]; exact HP39.1); clear HP39; have n0_ := Aside0.mk (hp_); have n1_ := Aside0.mk (IsS96.grown (z_97) hg (IsS96.own_neQ HI0.out HO_7.out (z_5))); have n2_ := Aside0.mk ((by rw [hw]; exact below_set (HB.out) (Nat.le_trans HL.out GB37.out) : Below w0.heap.size w0 w40)); have n3_ := Aside0.mk (KeepBut.trans (z_98) (KeepBut.of_grown hg g) (Kd.Q_base2 HO_7.out)); clear HO_7; clear HI0; clear HB; clear HK; have HO_7 := n0_; have HI0 := n1_; have HB := n2_; have HK := n3_; clear n0_ n1_ n2_ n3_; clear hg hw hp_))
          go_ret
          exact ⟨_, z_13, z_119, z_97, z_99, z_98⟩
         ·rw [if_neg c36] at H
          exact absurd H (z_12)
      ·replace c22 := Bool.eq_false_iff.mpr c22
       subst c22
       rw [if_neg (show ¬ (false = true) by decide)] at H
       simp only [Option.some.injEq, Prod.mk.injEq] at H
       obtain ⟨rfl, rfl⟩ := H
       go_wp2
       go_ret
       exact ⟨_, z_13, z_119, z_97, z_99, z_98⟩

/-! ### spec_DrawKeptAsk: function 47 -/
def spec_DrawKeptAsk.f (k : Nat) (l0 : List Int) : Option ((List (S83)) × (List (S26)) × ByteArray × Int) := (spec_l20Open.f l0).bind fun bt390 => ((spec_l20Names.f k bt390.1 bt390.2 20).bind fun bt393 => ((spec_l20Kept.f k bt390.1 bt393.2 bt393.1 15).bind fun bt397 => ((spec_l20Text.f k bt390.1 bt397.2).bind fun bt401 => ((spec_l20Rd_pick.f k bt390.1 bt401.2 40).bind fun bt403 => (some (bt397.1, bt393.1, bt401.1, bt403.1))))))
theorem spec_DrawKeptAsk.mono : ∀ a0 k, LeO (spec_DrawKeptAsk.f k a0) (spec_DrawKeptAsk.f (k + 1) a0) := by
 intro a0 k
 unfold spec_DrawKeptAsk.f
 repeat' first
   | (with_reducible exact spec_l20Kept.mono _ _ _ _ _)
   | (with_reducible exact spec_l20Names.mono _ _ _ _)
   | (with_reducible exact spec_l20Rd_pick.mono _ _ _ _)
   | (with_reducible exact spec_l20Text.mono _ _ _)
   | (with_reducible exact LeO.refl _)
   | (with_reducible exact LeO.none _)
   | (with_reducible refine LeO.ite ?_ ?_)
   | (with_reducible refine LeO.bind ?_ (fun _ => ?_))
   | exact spec_l20Kept.mono _ _ _ _ _
   | exact spec_l20Names.mono _ _ _ _
   | exact spec_l20Rd_pick.mono _ _ _ _
   | exact spec_l20Text.mono _ _ _
   | exact LeO.none _
   | refine LeO.ite ?_ ?_
   | refine LeO.bind ?_ (fun _ => ?_)
set_option maxHeartbeats 8000000 in
set_option maxRecDepth 100000 in
theorem spec_DrawKeptAsk.calls (k : Nat) (A0 : Option Addr) (c0 : Nat) (l0 : List Int) (r1 : List (S83)) (r2 : List (S26)) (r3 : ByteArray) (r4 : Int) (w : World) (hr0 : Kd.C (Kd.int .u8) w A0 l0.length l0) (hc0 : l0.length ≤ c0) (h : spec_DrawKeptAsk.f k l0 = some (r1, r2, r3, r4)) :
  Calls Try.prog 47 #[.slice A0 l0.length c0] w fun e w' => ∃ v0_ v1_ : Value, e = .returned (.tuple #[v0_, v1_, .string r3, .int .i64 r4]) ∧ Kd.Q k83 83 w' w.heap.size (fun _ => True) v0_ r1 ∧ Kd.R k26 26 w' w.heap.size (fun _ => True) v1_ r2 ∧ Below w.heap.size w w' := by
 have HR0 := Aside0.mk hr0
 have HC0 := Aside0.mk hc0
 clear hr0 hc0
 have HB := Aside0.mk (Below.refl w.heap.size w)
 have H : ((spec_l20Open.f l0).bind fun bt390 => ((spec_l20Names.f k bt390.1 bt390.2 20).bind fun bt393 => ((spec_l20Kept.f k bt390.1 bt393.2 bt393.1 15).bind fun bt397 => ((spec_l20Text.f k bt390.1 bt397.2).bind fun bt401 => ((spec_l20Rd_pick.f k bt390.1 bt401.2 40).bind fun bt403 => (some (bt397.1, bt393.1, bt401.1, bt403.1))))))) = some (r1, r2, r3, r4) := h
 clear h
 replace H := Option.bind_eq_some_iff.mp H
 obtain ⟨⟨t390, t391⟩, A20, H⟩ := H
 replace H : ((spec_l20Names.f k t390 t391 20).bind fun bt393 => ((spec_l20Kept.f k t390 bt393.2 bt393.1 15).bind fun bt397 => ((spec_l20Text.f k t390 bt397.2).bind fun bt401 => ((spec_l20Rd_pick.f k t390 bt401.2 40).bind fun bt403 => (some (bt397.1, bt393.1, bt401.1, bt403.1)))))) = some (r1, r2, r3, r4) := H
 have A2 := Aside0.mk A20
 clear A20
 replace H := Option.bind_eq_some_iff.mp H
 obtain ⟨⟨t393, t396⟩, A30, H⟩ := H
 replace H : ((spec_l20Kept.f k t390 t396 t393 15).bind fun bt397 => ((spec_l20Text.f k t390 bt397.2).bind fun bt401 => ((spec_l20Rd_pick.f k t390 bt401.2 40).bind fun bt403 => (some (bt397.1, t393, bt401.1, bt403.1))))) = some (r1, r2, r3, r4) := H
 have A3 := Aside0.mk A30
 clear A30
 replace H := Option.bind_eq_some_iff.mp H
 obtain ⟨⟨t397, t400⟩, A40, H⟩ := H
 replace H : ((spec_l20Text.f k t390 t400).bind fun bt401 => ((spec_l20Rd_pick.f k t390 bt401.2 40).bind fun bt403 => (some (t397, t393, bt401.1, bt403.1)))) = some (r1, r2, r3, r4) := H
 have A4 := Aside0.mk A40
 clear A40
 replace H := Option.bind_eq_some_iff.mp H
 obtain ⟨⟨t401, t402⟩, A50, H⟩ := H
 replace H : ((spec_l20Rd_pick.f k t390 t402 40).bind fun bt403 => (some (t397, t393, t401, bt403.1))) = some (r1, r2, r3, r4) := H
 have A5 := Aside0.mk A50
 clear A50
 replace H := Option.bind_eq_some_iff.mp H
 obtain ⟨⟨t403, t404⟩, A60, H⟩ := H
 replace H : (some (t397, t393, t401, t403)) = some (r1, r2, r3, r4) := H
 have A6 := Aside0.mk A60
 clear A60
 simp only [Option.some.injEq, Prod.mk.injEq] at H
 obtain ⟨rfl, rfl, rfl, rfl⟩ := H
 go_enter Try.func47, Try.ntmps47
 go_wp2_with (first | ((with_reducible refine gate_callee (f := 60) rfl ?_); refine goesL_ (some 9) rfl rfl Try.func60 (z_0) rfl #[.slice A0 l0.length c0] rfl (z_14) ?_; (with_reducible refine (spec_l20Open.calls _ _ l0 t390 t391 w _ ?side1 ?side2 ?side3 A2.out).mono ?_); (case side1 => exact z_8); (case side2 => exact HR0.out); (case side3 => exact HC0.out); rintro e w7 ⟨g392, rfl, hi, hb, hb2⟩; refine ⟨_, rfl, ?_⟩; have n0_ := Aside0.mk (hb); have n1_ := Aside0.mk (hi); clear HB; have HB := n0_; have HI392 := n1_; clear n0_ n1_; (try clear hb); (try clear hb2); (try clear hk); (try clear hi)) | ((with_reducible refine gate_callee (f := 62) rfl ?_); refine goesL_ (some 11) rfl rfl Try.func62 (z_0) rfl #[.pointer (some ⟨g392, 0, none⟩), .int .i64 20] rfl (z_14) ?_; (with_reducible refine (spec_l20Names.calls k g392 t390 t391 20 t393 t396 w _ ?side1 ?side2 A3.out).mono ?_); (case side1 => exact z_121); (case side2 => exact z_122); rintro e w8 ⟨v394, rfl, ho0, hi, hb, hk⟩; refine ⟨_, rfl, ?_⟩; have n0_ := Aside0.mk (Kd.R_lower ho0 (below_size (z_122))); have n1_ := Aside0.mk (hb); have n2_ := Aside0.mk (hi); clear HB; clear HI392; have HO395 := n0_; have HB := n1_; have HI392 := n2_; clear n0_ n1_ n2_; (try clear hb); (try clear hb2); (try clear hk); (try clear hi); (try clear ho0); obtain ⟨Ao9, co9, eo9⟩ := Kd.R_slice HO395.out; subst eo9) | ((with_reducible refine gate_callee (f := 72) rfl ?_); refine goesL_ (some 14) rfl rfl Try.func72 (z_0) rfl #[.pointer (some ⟨g392, 0, none⟩), .slice Ao9 t393.length co9, .int .i64 15] rfl (z_14) ?_; (with_reducible refine (spec_l20Kept.calls k g392 t390 t396 _ _ t393 15 t397 t400 w _ ?side1 ?side2 ?side3 ?side4 A4.out).mono ?_); (case side1 => exact z_121); (case side2 => exact z_122); (case side3 => exact Kd.C_foot_own (IsS96.apart (show IsS96 w _ g392 t390 t396 from z_121) (z_123) (z_5)) (fun _ h_ => h_.2)); (case side4 => exact (Kd.R_reads' HO395.out).2.1); rintro e w10 ⟨v398, rfl, ho0, hi, hb, hk⟩; refine ⟨_, rfl, ?_⟩; have n0_ := Aside0.mk (Kd.R_mono (Kd.R_keep (IsS96.apart (show IsS96 w _ g392 t390 t396 from z_121) (z_123) (z_5)) hk (fun _ h => h.2)) (fun _ h => h.1)); have n1_ := Aside0.mk (Kd.Q_lower ho0 (below_size (z_122))); have n2_ := Aside0.mk (hb); have n3_ := Aside0.mk (hi); clear HO395; clear HB; clear HI392; have HO395 := n0_; have HO399 := n1_; have HB := n2_; have HI392 := n3_; clear n0_ n1_ n2_ n3_; (try clear hb); (try clear hb2); (try clear hk); (try clear hi); (try clear ho0)) | ((with_reducible refine gate_callee (f := 68) rfl ?_); refine goesL_ (some 17) rfl rfl Try.func68 (z_0) rfl #[.pointer (some ⟨g392, 0, none⟩)] rfl (z_14) ?_; (with_reducible refine (spec_l20Text.calls k g392 t390 t400 t401 t402 w _ ?side1 ?side2 A5.out).mono ?_); (case side1 => exact z_121); (case side2 => exact z_122); rintro e w11 ⟨rfl, hi, hb, hk⟩; refine ⟨_, rfl, ?_⟩; have n0_ := Aside0.mk (Kd.R_mono (Kd.R_keep (IsS96.apart (show IsS96 w _ g392 t390 t400 from z_121) (z_123) (z_5)) hk (fun _ h => h.2)) (fun _ h => h.1)); have n1_ := Aside0.mk (Kd.Q_mono (Kd.Q_keep (IsS96.apartQ (show IsS96 w _ g392 t390 t400 from z_121) (z_124) (z_5)) hk (fun _ h => h.2)) (fun _ h => h.1)); have n2_ := Aside0.mk (hb); have n3_ := Aside0.mk (hi); clear HO395; clear HO399; clear HB; clear HI392; have HO395 := n0_; have HO399 := n1_; have HB := n2_; have HI392 := n3_; clear n0_ n1_ n2_ n3_; (try clear hb); (try clear hb2); (try clear hk); (try clear hi)) | ((with_reducible refine gate_callee (f := 69) rfl ?_); refine goesL_ (some 19) rfl rfl Try.func69 (z_0) rfl #[.pointer (some ⟨g392, 0, none⟩), .int .i64 40] rfl (z_14) ?_; (with_reducible refine (spec_l20Rd_pick.calls k g392 t390 t402 40 t403 t404 w _ ?side1 ?side2 A6.out).mono ?_); (case side1 => exact z_121); (case side2 => exact z_122); rintro e w12 ⟨rfl, hi, hb, hk⟩; refine ⟨_, rfl, ?_⟩; have n0_ := Aside0.mk (Kd.R_mono (Kd.R_keep (IsS96.apart (show IsS96 w _ g392 t390 t402 from z_121) (z_123) (z_5)) hk (fun _ h => h.2)) (fun _ h => h.1)); have n1_ := Aside0.mk (Kd.Q_mono (Kd.Q_keep (IsS96.apartQ (show IsS96 w _ g392 t390 t402 from z_121) (z_124) (z_5)) hk (fun _ h => h.2)) (fun _ h => h.1)); have n2_ := Aside0.mk (hb); have n3_ := Aside0.mk (hi); clear HO395; clear HO399; clear HB; clear HI392; have HO395 := n0_; have HO399 := n1_; have HB := n2_; have HI392 := n3_; clear n0_ n1_ n2_ n3_; (try clear hb); (try clear hb2); (try clear hk); (try clear hi)))
 refine bodyPost_ret (results_list (rs := [.tmp 2, .tmp 3, .tmp 4, .tmp 5]) rfl (z_12) (.tmp (.tmp (.tmp (.tmp .nil))))) rfl ?_
 exact ⟨_, _, z_13, z_124, z_123, z_122⟩

end Go.Proofs.Ytmgnmgobibpjjaa.GFnKeptAsk
