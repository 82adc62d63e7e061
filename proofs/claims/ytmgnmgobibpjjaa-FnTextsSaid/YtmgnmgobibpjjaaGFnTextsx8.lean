/- What the Go functions that FnTexts reaches come to, walked step by step; there is no condition beyond those each statement names. -/
import Derived.Deep.RegionLaw
import Derived.Lib.SliceRun
import Derived.Test.YtmgnmgobibpjjaaGFnTextsx0
import Derived.Test.YtmgnmgobibpjjaaGFnTextsx3
import Derived.Test.YtmgnmgobibpjjaaGFnTextsx4
import Derived.Test.YtmgnmgobibpjjaaGFnTextsx6
import Derived.Test.YtmgnmgobibpjjaaGFnTextsx7
namespace Go.Proofs.Ytmgnmgobibpjjaa.GFnTexts
open Go.RowKit Go.Proofs.YtmgnmgobibpjjaaVTexts.PrintWords Go.Proofs.YtmgnmgobibpjjaaVTexts.PrintLast Go.Proofs.YtmgnmgobibpjjaaVTexts.PrintMore
attribute [local go_sem] max2_int min2_int max_two min_two max_three min_three max_four min_four   -- for this text's walks alone
set_option linter.unusedVariables false
set_option linter.unusedSimpArgs false

/-! ### spec_l20Names: function 62 -/
def spec_l20Names.l0 : Nat → Int → List (S26) → List ByteArray → Int → Int → List Int → Int → Option ((List (S26)) × Int)
  | 0, _, _, _, _, _, _, _ => none
  | k + 1, x1, x5, x10, x11, x12, x1000, x1001 => if x12 < x11 then (if 0 ≤ x12 then (if x12 < (x10.length : Int) then ((spec_l20Rd_pick.f k x1000 x1001 3).bind fun bt203 => (if bt203.1 > 0 then ((spec_l20Name.f k x1000 bt203.2 0).bind fun bt205 => (if x5.length < 2513169434916 then (spec_l20Names.l0 k x1 (x5 ++ [(⟨rdOf ByteArray.empty x10 x12, bt205.2.1, bt205.2.2.1, bt205.2.2.2.1, bt205.2.2.2.2.1⟩ : S26)]) x10 x11 (wrap64 (x12 + 1)) x1000 bt205.2.2.2.2.2) else (none))) else (spec_l20Names.l0 k x1 x5 x10 x11 (wrap64 (x12 + 1)) x1000 bt203.2))) else (none)) else (none)) else ((spec_l20Rd_odd.f k x1000 x1001 x1).bind fun bt215 => (if bt215.1 = true then ((spec_l20Name.f k x1000 bt215.2 1).bind fun bt217 => (if x5.length < 2513169434916 then (some ((x5 ++ [(⟨bt217.1, bt217.2.1, bt217.2.2.1, bt217.2.2.2.1, bt217.2.2.2.2.1⟩ : S26)]), bt217.2.2.2.2.2)) else (none))) else (some (x5, bt215.2))))
def spec_l20Names.f (k : Nat) (s0_0 : List Int) (s0_1 : Int) (a1 : Int) : Option ((List (S26)) × Int) := (some (([(⟨#[97]⟩ : ByteArray), (⟨#[98]⟩ : ByteArray), (⟨#[99]⟩ : ByteArray), (⟨#[100, 100]⟩ : ByteArray), (⟨#[101, 101]⟩ : ByteArray), (⟨#[102]⟩ : ByteArray), (⟨#[103, 103]⟩ : ByteArray)] : List ByteArray) : List ByteArray)).bind fun y199 => (spec_l20Names.l0 k a1 (([] : List (S26))) y199 (y199.length : Int) 0 s0_0 s0_1)
theorem spec_l20Names.mono_l : ∀ k, (∀ y0 y1 y2 y3 y4 y5 y6, LeO (spec_l20Names.l0 k y0 y1 y2 y3 y4 y5 y6) (spec_l20Names.l0 (k + 1) y0 y1 y2 y3 y4 y5 y6))
  | 0 => fun _ _ _ _ _ _ _ r h => by simp [spec_l20Names.l0] at h
  | k + 1 => by
    have ih0 := spec_l20Names.mono_l k
    · intro y0 y1 y2 y3 y4 y5 y6
      unfold spec_l20Names.l0
      repeat' first
      | (with_reducible exact ih0 _ _ _ _ _ _ _)
      | (with_reducible exact spec_l20Name.mono _ _ _ _)
      | (with_reducible exact spec_l20Rd_odd.mono _ _ _ _)
      | (with_reducible exact spec_l20Rd_pick.mono _ _ _ _)
      | (with_reducible exact LeO.refl _)
      | (with_reducible exact LeO.none _)
      | (with_reducible refine LeO.ite ?_ ?_)
      | (with_reducible refine LeO.bind ?_ (fun _ => ?_))
      | exact ih0 _ _ _ _ _ _ _
      | exact spec_l20Name.mono _ _ _ _
      | exact spec_l20Rd_odd.mono _ _ _ _
      | exact spec_l20Rd_pick.mono _ _ _ _
      | exact LeO.none _
      | refine LeO.ite ?_ ?_
      | refine LeO.bind ?_ (fun _ => ?_)
theorem spec_l20Names.mono : ∀ a0 a1 a2 k, LeO (spec_l20Names.f k a0 a1 a2) (spec_l20Names.f (k + 1) a0 a1 a2) := by
  intro a0 a1 a2 k
  have ih0 := spec_l20Names.mono_l k
  unfold spec_l20Names.f
  repeat' first
      | (with_reducible exact ih0 _ _ _ _ _ _ _)
      | (with_reducible exact spec_l20Name.mono _ _ _ _)
      | (with_reducible exact spec_l20Rd_odd.mono _ _ _ _)
      | (with_reducible exact spec_l20Rd_pick.mono _ _ _ _)
      | (with_reducible exact LeO.refl _)
      | (with_reducible exact LeO.none _)
      | (with_reducible refine LeO.ite ?_ ?_)
      | (with_reducible refine LeO.bind ?_ (fun _ => ?_))
      | exact ih0 _ _ _ _ _ _ _
      | exact spec_l20Name.mono _ _ _ _
      | exact spec_l20Rd_odd.mono _ _ _ _
      | exact spec_l20Rd_pick.mono _ _ _ _
      | exact LeO.none _
      | refine LeO.ite ?_ ?_
      | refine LeO.bind ?_ (fun _ => ?_)
set_option maxHeartbeats 8000000 in
set_option maxRecDepth 100000 in
theorem spec_l20Names.calls (k : Nat) (g : Nat) (s0_0 : List Int) (s0_1 : Int) (a1 : Int) (r1 : List (S26)) (r2 : Int) (w0 w : World) (hI : IsS96 w0 w g s0_0 s0_1) (hB : Below w0.heap.size w0 w) (h : spec_l20Names.f k s0_0 s0_1 a1 = some (r1, r2)) :
    Calls Try.prog 62 #[.pointer (some ⟨g, 0, none⟩), .int .i64 a1] w fun e w' => ∃ v0_ : Value, e = .returned (v0_) ∧ Kd.R k26 26 w' w.heap.size (fun _ => True) v0_ r1 ∧ IsS96 w0 w' g s0_0 r2 ∧ Below w0.heap.size w0 w' ∧ KeepBut w w' g none := by
  have hu26 := Try.underlying26
  have HI0 := Aside0.mk hI
  have HK := Aside0.mk (KeepBut.refl w g none)
  have HL := Aside0.mk hB.size
  clear hI
  have HW0 := Aside0.mk hB.size
  have HB := Aside0.mk hB
  clear hB
  have H : ((some (([(⟨#[97]⟩ : ByteArray), (⟨#[98]⟩ : ByteArray), (⟨#[99]⟩ : ByteArray), (⟨#[100, 100]⟩ : ByteArray), (⟨#[101, 101]⟩ : ByteArray), (⟨#[102]⟩ : ByteArray), (⟨#[103, 103]⟩ : ByteArray)] : List ByteArray) : List ByteArray)).bind fun y199 => (spec_l20Names.l0 k a1 (([] : List (S26))) y199 (y199.length : Int) 0 s0_0 s0_1)) = some (r1, r2) := h
  clear h
  obtain ⟨y196, hy196⟩ : ∃ y_ : List (S26), y_ = (([] : List (S26))) := ⟨_, rfl⟩
  replace H : ((some (([(⟨#[97]⟩ : ByteArray), (⟨#[98]⟩ : ByteArray), (⟨#[99]⟩ : ByteArray), (⟨#[100, 100]⟩ : ByteArray), (⟨#[101, 101]⟩ : ByteArray), (⟨#[102]⟩ : ByteArray), (⟨#[103, 103]⟩ : ByteArray)] : List ByteArray) : List ByteArray)).bind fun y199 => (spec_l20Names.l0 k a1 y196 y199 (y199.length : Int) 0 s0_0 s0_1)) = some (r1, r2) := by first | (rw [hy196]; with_reducible exact H) | (have H2_ := (Option.bind_some _ _).symm.trans H; rw [hy196]; with_reducible exact H2_) | (have H2_ := (Option.bind_some _ _).symm.trans H; with_reducible exact H2_) | with_reducible exact H | (rw [hy196]; exact H) | exact H
  have Ny196 := Aside0.mk hy196
  clear hy196
  obtain ⟨y199, hy199⟩ : ∃ y_ : List ByteArray, y_ = (([(⟨#[97]⟩ : ByteArray), (⟨#[98]⟩ : ByteArray), (⟨#[99]⟩ : ByteArray), (⟨#[100, 100]⟩ : ByteArray), (⟨#[101, 101]⟩ : ByteArray), (⟨#[102]⟩ : ByteArray), (⟨#[103, 103]⟩ : ByteArray)] : List ByteArray)) := ⟨_, rfl⟩
  replace H : (spec_l20Names.l0 k a1 y196 y199 (y199.length : Int) 0 s0_0 s0_1) = some (r1, r2) := by first | (rw [hy199]; with_reducible exact H) | (have H2_ := (Option.bind_some _ _).symm.trans H; rw [hy199]; with_reducible exact H2_) | (have H2_ := (Option.bind_some _ _).symm.trans H; with_reducible exact H2_) | with_reducible exact H | (rw [hy199]; exact H) | exact H
  have Ny199 := Aside0.mk hy199
  clear hy199
  have H' := Aside0.mk H
  clear H
  go_enter Try.func62, Try.ntmps62
  go_wp2_with (first | ((with_reducible refine gate_dst (N := 9) rfl ?_); refine Kd.R_lit k26 _ 26 ?hg (N := 9) ?hd (xs := ([] : List (S26))) (inner := []) (ok := fun _ => True) (okp := fun _ => True) ?hr ?hp (fun _ hk => hk) trivial (Below.refl _ _) (Nat.le_refl _) (z_12) ?_; (case hd => rfl); (case hg => rfl); (case hr => exact z_9); (case hp => exact z_45); intro v197 w3 ho4 hb hg_ hnew_; clear hg_ hnew_; (first | rw [← Ny196.out] at ho4 | (simp only [Int.reduceToNat] at ho4; rw [← Ny196.out] at ho4)); have n0_ := Aside0.mk (Kd.R_lower ho4 (keep_size (w := w) (g := g) (row := none) (z_33))); have n1_ := Aside0.mk (IsS96.below (z_32) hb); have n2_ := Aside0.mk (KeepBut.trans (z_33) (KeepBut.of_below hb g none) (.inl rfl)); have n3_ := Aside0.mk (below_step (z_34) hb); clear HI0; clear HK; clear HB; have HO198 := n0_; have HI0 := n1_; have HK := n2_; have HB := n3_; clear n0_ n1_ n2_ n3_; clear hb ho4) | ((with_reducible refine gate_dst (N := 10) rfl ?_); refine Kd.R_lit Kd.string _ 9 ?hg (N := 10) ?hd (xs := ([(⟨#[97]⟩ : ByteArray), (⟨#[98]⟩ : ByteArray), (⟨#[99]⟩ : ByteArray), (⟨#[100, 100]⟩ : ByteArray), (⟨#[101, 101]⟩ : ByteArray), (⟨#[102]⟩ : ByteArray), (⟨#[103, 103]⟩ : ByteArray)] : List ByteArray)) (inner := [.string (⟨#[97]⟩ : ByteArray), .string (⟨#[98]⟩ : ByteArray), .string (⟨#[99]⟩ : ByteArray), .string (⟨#[100, 100]⟩ : ByteArray), .string (⟨#[101, 101]⟩ : ByteArray), .string (⟨#[102]⟩ : ByteArray), .string (⟨#[103, 103]⟩ : ByteArray)]) (ok := fun _ => True) (okp := fun _ => True) ?hr ?hp (fun _ hk => hk) trivial (Below.refl _ _) (Nat.le_refl _) (z_12) ?_; (case hd => rfl); (case hg => rfl); (case hr => exact z_9); (case hp => exact (Reps.one (show Kd.M Kd.string _ _ _ (⟨#[97]⟩ : ByteArray) [.string (⟨#[97]⟩ : ByteArray)] from rfl) (Reps.one (show Kd.M Kd.string _ _ _ (⟨#[98]⟩ : ByteArray) [.string (⟨#[98]⟩ : ByteArray)] from rfl) (Reps.one (show Kd.M Kd.string _ _ _ (⟨#[99]⟩ : ByteArray) [.string (⟨#[99]⟩ : ByteArray)] from rfl) (Reps.one (show Kd.M Kd.string _ _ _ (⟨#[100, 100]⟩ : ByteArray) [.string (⟨#[100, 100]⟩ : ByteArray)] from rfl) (Reps.one (show Kd.M Kd.string _ _ _ (⟨#[101, 101]⟩ : ByteArray) [.string (⟨#[101, 101]⟩ : ByteArray)] from rfl) (Reps.one (show Kd.M Kd.string _ _ _ (⟨#[102]⟩ : ByteArray) [.string (⟨#[102]⟩ : ByteArray)] from rfl) (Reps.one (show Kd.M Kd.string _ _ _ (⟨#[103, 103]⟩ : ByteArray) [.string (⟨#[103, 103]⟩ : ByteArray)] from rfl) (Reps.none _ _))))))))); intro v200 w5 ho6 hb hg_ hnew_; clear hg_ hnew_; (first | rw [← Ny199.out] at ho6 | (simp only [Int.reduceToNat] at ho6; rw [← Ny199.out] at ho6)); have n0_ := Aside0.mk (Kd.R_below (z_46) hb); have n1_ := Aside0.mk (Kd.R_lower ho6 (keep_size (w := w) (g := g) (row := none) (z_33))); have n2_ := Aside0.mk (IsS96.below (z_32) hb); have n3_ := Aside0.mk (KeepBut.trans (z_33) (KeepBut.of_below hb g none) (.inl rfl)); have n4_ := Aside0.mk (below_step (z_34) hb); clear HO198; clear HI0; clear HK; clear HB; have HO198 := n0_; have HO201 := n1_; have HI0 := n2_; have HK := n3_; have HB := n4_; clear n0_ n1_ n2_ n3_ n4_; clear hb ho6; obtain ⟨Ao7, co7, eo7⟩ := Kd.R_slice HO201.out; subst eo7))
  go_loopg [5, 12] k (fun kq v5 v12 w' => ∃ (x5_1 : List (S26)) (x12_1 : Int) (x1001_1 : Int), v12 = .int .i64 x12_1 ∧ Aside0 (spec_l20Names.l0 kq a1 x5_1 y199 (y199.length : Int) x12_1 s0_0 x1001_1 = some (r1, r2)) ∧ Aside0 (kq ≤ k) ∧ Aside0 (Kd.R k26 26 w' w.heap.size (fun _ => True) v5 x5_1) ∧ Aside0 (Kd.R Kd.string 9 w' w.heap.size (fun _ => True) (.slice Ao7 y199.length co7) y199) ∧ Aside0 (IsS96 w0 w' g s0_0 x1001_1) ∧ Aside0 (KeepBut w w' g none) ∧ Aside0 (Below w0.heap.size w0 w'))
  case atStart => exact ⟨(y196), (0), (s0_1), (z_3), H', ⟨Nat.le_refl _⟩, ⟨z_46⟩, ⟨by (with_reducible repeat (first | apply Kd.R_alloc | apply Kd.R_drewN | apply Kd.R_drew)); exact HO201.out⟩, ⟨z_32⟩, ⟨z_33⟩, ⟨z_34⟩⟩
  case round =>
    clear H'
    try clear p2
    try clear c6
    obtain ⟨x5_1, x12_1, x1001_1, rfl, HA, HK1, HO_5, HO_10, HI0, HK, HB⟩ := hrel
    cases gk with
    | zero => exact absurd HA.out (by simp [spec_l20Names.l0])
    | succ k1 =>
      have H := HA.out
      clear HA
      simp only [spec_l20Names.l0] at H
      by_cases c8 : x12_1 < (y199.length : Int)
      · rw [if_pos c8] at H
        have c8b0 : decide (x12_1 < (y199.length : Int)) = true := decide_eq_true c8
        clear c8
        by_cases c9 : 0 ≤ x12_1
        · rw [if_pos c9] at H
          have c9b0 : decide (0 ≤ x12_1) = true := decide_eq_true c9
          clear c9
          by_cases c10 : x12_1 < (y199.length : Int)
          · rw [if_pos c10] at H
            have c10b0 : decide (x12_1 < (y199.length : Int)) = true := decide_eq_true c10
            clear c10
            replace H := Option.bind_eq_some_iff.mp H
            obtain ⟨⟨t203, t204⟩, A110, H⟩ := H
            replace H : (if t203 > 0 then ((spec_l20Name.f k1 s0_0 t204 0).bind fun bt205 => (if x5_1.length < 2513169434916 then (spec_l20Names.l0 k1 a1 (x5_1 ++ [(⟨rdOf ByteArray.empty y199 x12_1, bt205.2.1, bt205.2.2.1, bt205.2.2.2.1, bt205.2.2.2.2.1⟩ : S26)]) y199 (y199.length : Int) (wrap64 (x12_1 + 1)) s0_0 bt205.2.2.2.2.2) else (none))) else (spec_l20Names.l0 k1 a1 x5_1 y199 (y199.length : Int) (wrap64 (x12_1 + 1)) s0_0 t204)) = some (r1, r2) := H
            have A11 := Aside0.mk A110
            clear A110
            by_cases c12 : t203 > 0
            · rw [if_pos c12] at H
              have c12b0 : decide (0 < t203) = true := decide_eq_true c12
              clear c12
              replace H := Option.bind_eq_some_iff.mp H
              obtain ⟨⟨t205, t206, t207, t208, t209, t210⟩, A130, H⟩ := H
              replace H : (if x5_1.length < 2513169434916 then (spec_l20Names.l0 k1 a1 (x5_1 ++ [(⟨rdOf ByteArray.empty y199 x12_1, t206, t207, t208, t209⟩ : S26)]) y199 (y199.length : Int) (wrap64 (x12_1 + 1)) s0_0 t210) else (none)) = some (r1, r2) := H
              have A13 := Aside0.mk A130
              clear A130
              by_cases c14 : x5_1.length < 2513169434916
              · rw [if_pos c14] at H
                have LMc14 := Aside0.mk c14
                clear c14
                obtain ⟨y212, hy212⟩ : ∃ y_ : List (S26), y_ = (x5_1 ++ [(⟨rdOf ByteArray.empty y199 x12_1, t206, t207, t208, t209⟩ : S26)]) := ⟨_, rfl⟩
                replace H : (spec_l20Names.l0 k1 a1 y212 y199 (y199.length : Int) (wrap64 (x12_1 + 1)) s0_0 t210) = some (r1, r2) := by first | (rw [hy212]; with_reducible exact H) | (have H2_ := (Option.bind_some _ _).symm.trans H; rw [hy212]; with_reducible exact H2_) | (have H2_ := (Option.bind_some _ _).symm.trans H; with_reducible exact H2_) | with_reducible exact H | (rw [hy212]; exact H) | exact H
                have Ny212 := Aside0.mk hy212
                clear hy212
                have H' := Aside0.mk H
                clear H
                have p202 : 0 ≤ (x12_1 : Int) := of_decide_eq_true (z_7)
                have q202 : x12_1 < (y199.length : Int) := of_decide_eq_true (z_7)
                obtain ⟨ad202, e202, hx202_0⟩ := Kd.at_string (Kd.R_reads' HO_10.out).2.2 x12_1 p202 q202
                cases e202
                replace p202 := eq_true p202
                replace q202 := eq_true q202
                generalize htx_ : rdOf ByteArray.empty y199 x12_1 = tx_ at hx202_0 Ny212
                clear htx_
                go_upto_region 8 with (first | ((with_reducible refine gate_callee (f := 69) rfl ?_); refine goesL_ (some 17) rfl rfl Try.func69 (z_0) rfl #[.pointer (some ⟨g, 0, none⟩), .int .i64 3] rfl (z_14) ?_; (with_reducible refine (spec_l20Rd_pick.calls k1 g s0_0 x1001_1 3 t203 t204 w0 _ ?side1 ?side2 A11.out).mono ?_); (case side1 => exact z_32); (case side2 => exact z_34); rintro e w15 ⟨rfl, hi, hb, hk⟩; refine ⟨_, rfl, ?_⟩; have n0_ := Aside0.mk (Kd.R_mono (Kd.R_keep (IsS96.apart (show IsS96 w0 _ g s0_0 x1001_1 from z_32) (z_11) (z_5)) hk (fun _ h => h.2)) (fun _ h => h.1)); have n1_ := Aside0.mk (Kd.R_mono (Kd.R_keep (IsS96.apart (show IsS96 w0 _ g s0_0 x1001_1 from z_32) (z_47) (z_5)) hk (fun _ h => h.2)) (fun _ h => h.1)); have n2_ := Aside0.mk (KeepBut.trans (z_33) hk (.inl rfl)); have n3_ := Aside0.mk (hb); have n4_ := Aside0.mk (hi); clear HO_5; clear HO_10; clear HK; clear HB; clear HI0; have HO_5 := n0_; have HO_10 := n1_; have HK := n2_; have HB := n3_; have HI0 := n4_; clear n0_ n1_ n2_ n3_ n4_; (try clear hb); (try clear hb2); (try clear hk); (try clear hi)) | ((with_reducible refine gate_callee (f := 59) rfl ?_); refine goesL_ (some 20) rfl rfl Try.func59 (z_0) rfl #[.pointer (some ⟨g, 0, none⟩), .int .i64 0] rfl (z_14) ?_; (with_reducible refine (spec_l20Name.calls k1 g s0_0 t204 0 t205 t206 t207 t208 t209 t210 w0 _ ?side1 ?side2 A13.out).mono ?_); (case side1 => exact z_32); (case side2 => exact z_34); rintro e w16 ⟨rfl, hi, hb, hk⟩; refine ⟨_, rfl, ?_⟩; have n0_ := Aside0.mk (Kd.R_mono (Kd.R_keep (IsS96.apart (show IsS96 w0 _ g s0_0 t204 from z_32) (z_11) (z_5)) hk (fun _ h => h.2)) (fun _ h => h.1)); have n1_ := Aside0.mk (Kd.R_mono (Kd.R_keep (IsS96.apart (show IsS96 w0 _ g s0_0 t204 from z_32) (z_47) (z_5)) hk (fun _ h => h.2)) (fun _ h => h.1)); have n2_ := Aside0.mk (KeepBut.trans (z_33) hk (.inl rfl)); have n3_ := Aside0.mk (hb); have n4_ := Aside0.mk (hi); clear HO_5; clear HO_10; clear HK; clear HB; clear HI0; have HO_5 := n0_; have HO_10 := n1_; have HK := n2_; have HB := n3_; have HI0 := n4_; clear n0_ n1_ n2_ n3_ n4_; (try clear hb); (try clear hb2); (try clear hk); (try clear hi)) | ((with_reducible refine gate_dst (N := 8) rfl ?_); refine box_event ?hg (N := 8) ?hd (cs := #[.string (⟨#[]⟩ : ByteArray), .int .i64 0, .int .i64 0, .string (⟨#[]⟩ : ByteArray), .int .i64 0]) (t := 26) ?hr ?_; (case hd => rfl); (case hg => rfl); (case hr => exact z_9); intro gb211 hg w17 hbox hb; have n0_ := Aside0.mk (Kd.R_below (Kd.R_elderB (z_11) gb211 (Nat.le_of_eq hg.symm)) hb); have n1_ := Aside0.mk (Kd.R_below (z_47) hb); have n2_ := Aside0.mk (IsS96.below (z_32) hb); have n3_ := Aside0.mk (KeepBut.trans (z_33) (KeepBut.of_below hb g none) (.inl rfl)); have n4_ := Aside0.mk (below_step (z_34) hb); have n5_ := Aside0.mk (hbox); have n6_ := Aside0.mk ((z_35 : w.heap.size ≤ gb211)); have n7_ := Aside0.mk ((Nat.le_trans HW0.out (z_35 : w.heap.size ≤ gb211) : w0.heap.size ≤ gb211)); have n8_ := Aside0.mk ((by rw [hg]; exact Nat.ne_of_lt (IsS96.lt (show IsS96 w0 _ g s0_0 t210 from z_32)) : g ≠ gb211)); have n9_ := Aside0.mk ((by rw [hg]; exact Nat.ne_of_gt (IsS96.lt (show IsS96 w0 _ g s0_0 t210 from z_32)) : gb211 ≠ g)); clear HO_5; clear HO_10; clear HI0; clear HK; clear HB; have HO_5 := n0_; have HO_10 := n1_; have HI0 := n2_; have HK := n3_; have HB := n4_; have BK211 := n5_; have GW211 := n6_; have GE211 := n7_; have NB0_211 := n8_; have NB211_0 := n9_; clear n0_ n1_ n2_ n3_ n4_ n5_ n6_ n7_ n8_ n9_; clear hb hbox hg; have hnb18 := NB211_0.out; have hnc18 := NB0_211.out; have hcz19_0 : w17.cell? ⟨gb211, 0, none⟩ = some (.string (⟨#[]⟩ : ByteArray)) := (blk_cell BK211.out 0).trans rfl; have hcz19_1 : w17.cell? ⟨gb211, 1, none⟩ = some (.int .i64 0) := (blk_cell BK211.out 1).trans rfl; have hcz19_2 : w17.cell? ⟨gb211, 2, none⟩ = some (.int .i64 0) := (blk_cell BK211.out 2).trans rfl; have hcz19_3 : w17.cell? ⟨gb211, 3, none⟩ = some (.string (⟨#[]⟩ : ByteArray)) := (blk_cell BK211.out 3).trans rfl; have hcz19_4 : w17.cell? ⟨gb211, 4, none⟩ = some (.int .i64 0) := (blk_cell BK211.out 4).trans rfl; have hfz19_0 := blk_frozen BK211.out 0; have hfz19_1 := blk_frozen BK211.out 1; have hfz19_2 := blk_frozen BK211.out 2; have hfz19_3 := blk_frozen BK211.out 3; have hfz19_4 := blk_frozen BK211.out 4))
                obtain ⟨w18, hw18_⟩ : ∃ w_ : World, w_ = ((((((w17.setCell ⟨gb211, 0, none⟩ (.string t205)).setCell ⟨gb211, 1, none⟩ (.int .i64 t206)).setCell ⟨gb211, 2, none⟩ (.int .i64 t207)).setCell ⟨gb211, 3, none⟩ (.string t208)).setCell ⟨gb211, 4, none⟩ (.int .i64 t209)).setCell ⟨gb211, 0, none⟩ (.string (tx_))) := ⟨_, rfl⟩
                have nb_ := Aside0.mk (show w18.heap[gb211]? = some (.cells #[.string (tx_), .int .i64 t206, .int .i64 t207, .string t208, .int .i64 t209] 26 (0, 0)) by rw [hw18_]; (with_reducible repeat (first | refine blk_drewN ?_ _ | refine blk_drew ?_ | refine blk_alloc ?_ _)); refine blk_put (cs := #[.string t205, .int .i64 t206, .int .i64 t207, .string t208, .int .i64 t209]) ?_ 0 _ rfl; (with_reducible repeat (first | refine blk_drewN ?_ _ | refine blk_drew ?_ | refine blk_alloc ?_ _)); refine blk_put (cs := #[.string t205, .int .i64 t206, .int .i64 t207, .string t208, .int .i64 0]) ?_ 4 _ rfl; (with_reducible repeat (first | refine blk_drewN ?_ _ | refine blk_drew ?_ | refine blk_alloc ?_ _)); refine blk_put (cs := #[.string t205, .int .i64 t206, .int .i64 t207, .string (⟨#[]⟩ : ByteArray), .int .i64 0]) ?_ 3 _ rfl; (with_reducible repeat (first | refine blk_drewN ?_ _ | refine blk_drew ?_ | refine blk_alloc ?_ _)); refine blk_put (cs := #[.string t205, .int .i64 t206, .int .i64 0, .string (⟨#[]⟩ : ByteArray), .int .i64 0]) ?_ 2 _ rfl; (with_reducible repeat (first | refine blk_drewN ?_ _ | refine blk_drew ?_ | refine blk_alloc ?_ _)); refine blk_put (cs := #[.string t205, .int .i64 0, .int .i64 0, .string (⟨#[]⟩ : ByteArray), .int .i64 0]) ?_ 1 _ rfl; (with_reducible repeat (first | refine blk_drewN ?_ _ | refine blk_drew ?_ | refine blk_alloc ?_ _)); refine blk_put (cs := #[.string (⟨#[]⟩ : ByteArray), .int .i64 0, .int .i64 0, .string (⟨#[]⟩ : ByteArray), .int .i64 0]) ?_ 0 _ rfl; (with_reducible repeat (first | refine blk_drewN ?_ _ | refine blk_drew ?_ | refine blk_alloc ?_ _)); exact BK211.out)
                have n5_ := Aside0.mk (show Kd.R k26 26 w18 w.heap.size (fun k_ => k_ ≠ gb211) u5 x5_1 by rw [hw18_]; exact Kd.R_mono (Kd.R_far (p := ⟨gb211, 0, none⟩) (Kd.R_far (p := ⟨gb211, 4, none⟩) (Kd.R_far (p := ⟨gb211, 3, none⟩) (Kd.R_far (p := ⟨gb211, 2, none⟩) (Kd.R_far (p := ⟨gb211, 1, none⟩) (Kd.R_far (p := ⟨gb211, 0, none⟩) (Kd.R_mono HO_5.out (fun k_ hk => (⟨hk, hk.2⟩ : _ ∧ k_ ≠ gb211))) (fun _ hk => hk.2) (.string t205)) (fun _ hk => hk.2) (.int .i64 t206)) (fun _ hk => hk.2) (.int .i64 t207)) (fun _ hk => hk.2) (.string t208)) (fun _ hk => hk.2) (.int .i64 t209)) (fun _ hk => hk.2) (.string (tx_))) (fun _ hk => hk.1.2))
                have n10_ := Aside0.mk (show Kd.R Kd.string 9 w18 w.heap.size (fun _ => True) _ y199 by rw [hw18_]; exact (Kd.R_mono (Kd.R_far (p := ⟨gb211, 0, none⟩) (Kd.R_far (p := ⟨gb211, 4, none⟩) (Kd.R_far (p := ⟨gb211, 3, none⟩) (Kd.R_far (p := ⟨gb211, 2, none⟩) (Kd.R_far (p := ⟨gb211, 1, none⟩) (Kd.R_far (p := ⟨gb211, 0, none⟩) (Kd.R_types HO_10.out BK211.out (z_5)) (fun _ hk => hk.2) (.string t205)) (fun _ hk => hk.2) (.int .i64 t206)) (fun _ hk => hk.2) (.int .i64 t207)) (fun _ hk => hk.2) (.string t208)) (fun _ hk => hk.2) (.int .i64 t209)) (fun _ hk => hk.2) (.string (tx_))) (fun _ h_ => h_.1)))
                have ni_ := Aside0.mk (show IsS96 w0 w18 g s0_0 t210 by rw [hw18_]; repeat (first | (with_reducible first | exact HI0.out | apply IsS96.alloc | apply IsS96.drewN | apply IsS96.drew | apply IsS96.set_1 | refine IsS96.far ?_ NB0_211.out _) | exact HI0.out))
                have nk_ := Aside0.mk (show KeepBut w w18 g none by rw [hw18_]; repeat (first | (with_reducible first | exact HK.out | apply KeepBut.set_ | apply keep_drewN | apply keep_drew | apply keep_alloc | refine keep_far ?_ GW211.out _) | exact HK.out))
                have nw_ := Aside0.mk (show Below w0.heap.size w0 w18 by rw [hw18_]; repeat (first | (with_reducible first | exact HB.out | apply below_alloc | apply pw_below_drewN | apply below_drew1 | refine below_set ?_ (IsS96.ge HI0.out) | refine below_set ?_ GE211.out) | exact HB.out))
                rw [← hw18_]
                clear hw18_ HO_5 HO_10 HI0 HK HB BK211
                clear hcz19_0
                clear hcz19_1
                clear hcz19_2
                clear hcz19_3
                clear hcz19_4
                clear hfz19_0
                clear hfz19_1
                clear hfz19_2
                clear hfz19_3
                clear hfz19_4
                have BK211 := nb_
                have HO_5 := n5_
                have HO_10 := n10_
                have HI0 := ni_
                have HK := nk_
                have HB := nw_
                clear nb_ n5_ n10_ ni_ nk_ nw_
                have hcz_0 : w18.cell? ⟨gb211, 0, none⟩ = some (.string (tx_)) := (blk_cell BK211.out 0).trans rfl
                have hfz_0 := blk_frozen BK211.out 0
                have hcz_1 : w18.cell? ⟨gb211, 1, none⟩ = some (.int .i64 t206) := (blk_cell BK211.out 1).trans rfl
                have hfz_1 := blk_frozen BK211.out 1
                have hcz_2 : w18.cell? ⟨gb211, 2, none⟩ = some (.int .i64 t207) := (blk_cell BK211.out 2).trans rfl
                have hfz_2 := blk_frozen BK211.out 2
                have hcz_3 : w18.cell? ⟨gb211, 3, none⟩ = some (.string t208) := (blk_cell BK211.out 3).trans rfl
                have hfz_3 := blk_frozen BK211.out 3
                have hcz_4 : w18.cell? ⟨gb211, 4, none⟩ = some (.int .i64 t209) := (blk_cell BK211.out 4).trans rfl
                have hfz_4 := blk_frozen BK211.out 4
                go_wp2_with (first | ((with_reducible refine gate_builtin (b := .append) (xs := #[.tmp 23, .tmp 25]) rfl ?_); at_builtin; refine Kd.R_append k26 w.heap.size rfl (.tmp 23) (.tmp 25) 36 26 (.agg #[(.string ⟨#[]⟩), (.int .i64 0), (.int .i64 0), (.string ⟨#[]⟩), (.int .i64 0)]) 56 rfl Try.underlying36 info26 rfl (z_5) (z_6) u5 x5_1 (⟨tx_, t206, t207, t208, t209⟩ : S26) [.string (tx_), .int .i64 t206, .int .i64 t207, .string t208, .int .i64 t209] (fun k_ => k_ ≠ gb211) (fun _ => False) rfl (z_9) ?aP (fun _ hk => hk.elim) ?aF ?aO (Below.refl _ _) ?aS ?aL ?_; (case aP => exact k26_mkM _ _ _ (⟨tx_, t206, t207, t208, t209⟩ : S26)); (case aF => exact (fun k_ hk => Kd.freshB (g := gb211) (o := .cells #[.string (tx_), .int .i64 t206, .int .i64 t207, .string t208, .int .i64 t209] 26 (0, 0)) (z_48) k_ hk)); (case aO => exact z_49); (case aS => exact (keep_size (w := w) (g := g) (row := none) (z_50))); (case aL => have := LMc14.out; omega); intro v213 w20 ho hb hg hat; rw [← Ny212.out] at ho; have n0_ := Aside0.mk (Kd.R_over' (z_47) (Kd.R_typed (z_11)) (z_5) hg); have n1_ := Aside0.mk (IsS96.grown (z_51) hg (IsS96.own_ne HI0.out HO_5.out (z_5))); have n2_ := Aside0.mk (blk_grown (g := gb211) (o := .cells #[.string (tx_), .int .i64 t206, .int .i64 t207, .string t208, .int .i64 t209] 26 (0, 0)) (z_48) hg (Kd.R_away HO_5.out (fun _ hk => hk))); have n3_ := Aside0.mk (below_weaken (z_52) HL.out hb); have n4_ := Aside0.mk (KeepBut.trans (z_50) (KeepBut.of_grown hg g) (Kd.R_base2 HO_5.out)); have n5_ := Aside0.mk (ho); clear HO_10; clear HI0; clear BK211; clear HB; clear HK; clear HO_5; have HO_10 := n0_; have HI0 := n1_; have BK211 := n2_; have HB := n3_; have HK := n4_; have HO214 := n5_; clear n0_ n1_ n2_ n3_ n4_ n5_; clear ho hb hg hat))
                go_roundg k1
                case measure => have := HK1.out; omega
                case rel => exact ⟨(y212), (wrap64 (x12_1 + 1)), (t210), (z_3), H', ⟨z_10⟩, ⟨by (with_reducible repeat (first | apply Kd.R_alloc | apply Kd.R_drewN | apply Kd.R_drew)); exact Kd.R_mono HO214.out (fun _ hk => trivial)⟩, ⟨z_47⟩, ⟨z_51⟩, ⟨z_50⟩, ⟨z_52⟩⟩
              · rw [if_neg c14] at H
                exact absurd H (z_12)
            · rw [if_neg c12] at H
              have c12b0 : decide (0 < t203) = false := decide_eq_false c12
              clear c12
              have H' := Aside0.mk H
              clear H
              have p202 : 0 ≤ (x12_1 : Int) := of_decide_eq_true (z_7)
              have q202 : x12_1 < (y199.length : Int) := of_decide_eq_true (z_7)
              obtain ⟨ad202, e202, hx202_0⟩ := Kd.at_string (Kd.R_reads' HO_10.out).2.2 x12_1 p202 q202
              cases e202
              replace p202 := eq_true p202
              replace q202 := eq_true q202
              go_wp2_with (first | ((with_reducible refine gate_callee (f := 69) rfl ?_); refine goesL_ (some 17) rfl rfl Try.func69 (z_0) rfl #[.pointer (some ⟨g, 0, none⟩), .int .i64 3] rfl (z_14) ?_; (with_reducible refine (spec_l20Rd_pick.calls k1 g s0_0 x1001_1 3 t203 t204 w0 _ ?side1 ?side2 A11.out).mono ?_); (case side1 => exact z_32); (case side2 => exact z_34); rintro e w21 ⟨rfl, hi, hb, hk⟩; refine ⟨_, rfl, ?_⟩; have n0_ := Aside0.mk (Kd.R_mono (Kd.R_keep (IsS96.apart (show IsS96 w0 _ g s0_0 x1001_1 from z_32) (z_11) (z_5)) hk (fun _ h => h.2)) (fun _ h => h.1)); have n1_ := Aside0.mk (Kd.R_mono (Kd.R_keep (IsS96.apart (show IsS96 w0 _ g s0_0 x1001_1 from z_32) (z_47) (z_5)) hk (fun _ h => h.2)) (fun _ h => h.1)); have n2_ := Aside0.mk (KeepBut.trans (z_33) hk (.inl rfl)); have n3_ := Aside0.mk (hb); have n4_ := Aside0.mk (hi); clear HO_5; clear HO_10; clear HK; clear HB; clear HI0; have HO_5 := n0_; have HO_10 := n1_; have HK := n2_; have HB := n3_; have HI0 := n4_; clear n0_ n1_ n2_ n3_ n4_; (try clear hb); (try clear hb2); (try clear hk); (try clear hi)))
              go_roundg k1
              case measure => have := HK1.out; omega
              case rel => exact ⟨(x5_1), (wrap64 (x12_1 + 1)), (t204), (z_3), H', ⟨z_10⟩, ⟨z_11⟩, ⟨z_47⟩, ⟨z_32⟩, ⟨z_33⟩, ⟨z_34⟩⟩
          · rw [if_neg c10] at H
            exact absurd H (z_12)
        · rw [if_neg c9] at H
          exact absurd H (z_12)
      · rw [if_neg c8] at H
        have c8b0 : decide (x12_1 < (y199.length : Int)) = false := decide_eq_false c8
        clear c8
        replace H := Option.bind_eq_some_iff.mp H
        obtain ⟨⟨t215, t216⟩, A220, H⟩ := H
        replace H : (if t215 = true then ((spec_l20Name.f k1 s0_0 t216 1).bind fun bt217 => (if x5_1.length < 2513169434916 then (some ((x5_1 ++ [(⟨bt217.1, bt217.2.1, bt217.2.2.1, bt217.2.2.2.1, bt217.2.2.2.2.1⟩ : S26)]), bt217.2.2.2.2.2)) else (none))) else (some (x5_1, t216))) = some (r1, r2) := H
        have A22 := Aside0.mk A220
        clear A220
        by_cases c23 : t215 = true
        · subst c23
          rw [if_pos rfl] at H
          replace H := Option.bind_eq_some_iff.mp H
          obtain ⟨⟨t217, t218, t219, t220, t221, t222⟩, A240, H⟩ := H
          replace H : (if x5_1.length < 2513169434916 then (some ((x5_1 ++ [(⟨t217, t218, t219, t220, t221⟩ : S26)]), t222)) else (none)) = some (r1, r2) := H
          have A24 := Aside0.mk A240
          clear A240
          by_cases c25 : x5_1.length < 2513169434916
          · rw [if_pos c25] at H
            have LMc25 := Aside0.mk c25
            clear c25
            obtain ⟨y223, hy223⟩ : ∃ y_ : List (S26), y_ = (x5_1 ++ [(⟨t217, t218, t219, t220, t221⟩ : S26)]) := ⟨_, rfl⟩
            replace H : (some (y223, t222)) = some (r1, r2) := by first | (rw [hy223]; with_reducible exact H) | (have H2_ := (Option.bind_some _ _).symm.trans H; rw [hy223]; with_reducible exact H2_) | (have H2_ := (Option.bind_some _ _).symm.trans H; with_reducible exact H2_) | with_reducible exact H | (rw [hy223]; exact H) | exact H
            have Ny223 := Aside0.mk hy223
            clear hy223
            simp only [Option.some.injEq, Prod.mk.injEq] at H
            obtain ⟨rfl, rfl⟩ := H
            go_wp2_with (first | ((with_reducible refine gate_callee (f := 78) rfl ?_); refine goesL_ (some 30) rfl rfl Try.func78 (z_0) rfl #[.pointer (some ⟨g, 0, none⟩), .int .i64 a1] rfl (z_14) ?_; (with_reducible refine (spec_l20Rd_odd.calls k1 g s0_0 x1001_1 a1 true t216 w0 _ ?side1 ?side2 A22.out).mono ?_); (case side1 => exact z_32); (case side2 => exact z_34); rintro e w26 ⟨rfl, hi, hb, hk⟩; refine ⟨_, rfl, ?_⟩; have n0_ := Aside0.mk (Kd.R_mono (Kd.R_keep (IsS96.apart (show IsS96 w0 _ g s0_0 x1001_1 from z_32) (z_11) (z_5)) hk (fun _ h => h.2)) (fun _ h => h.1)); have n1_ := Aside0.mk (Kd.R_mono (Kd.R_keep (IsS96.apart (show IsS96 w0 _ g s0_0 x1001_1 from z_32) (z_47) (z_5)) hk (fun _ h => h.2)) (fun _ h => h.1)); have n2_ := Aside0.mk (KeepBut.trans (z_33) hk (.inl rfl)); have n3_ := Aside0.mk (hb); have n4_ := Aside0.mk (hi); clear HO_5; clear HO_10; clear HK; clear HB; clear HI0; have HO_5 := n0_; have HO_10 := n1_; have HK := n2_; have HB := n3_; have HI0 := n4_; clear n0_ n1_ n2_ n3_ n4_; (try clear hb); (try clear hb2); (try clear hk); (try clear hi)) | ((with_reducible refine gate_callee (f := 59) rfl ?_); refine goesL_ (some 33) rfl rfl Try.func59 (z_0) rfl #[.pointer (some ⟨g, 0, none⟩), .int .i64 1] rfl (z_14) ?_; (with_reducible refine (spec_l20Name.calls k1 g s0_0 t216 1 t217 t218 t219 t220 t221 t222 w0 _ ?side1 ?side2 A24.out).mono ?_); (case side1 => exact z_32); (case side2 => exact z_34); rintro e w27 ⟨rfl, hi, hb, hk⟩; refine ⟨_, rfl, ?_⟩; have n0_ := Aside0.mk (Kd.R_mono (Kd.R_keep (IsS96.apart (show IsS96 w0 _ g s0_0 t216 from z_32) (z_11) (z_5)) hk (fun _ h => h.2)) (fun _ h => h.1)); have n1_ := Aside0.mk (Kd.R_mono (Kd.R_keep (IsS96.apart (show IsS96 w0 _ g s0_0 t216 from z_32) (z_47) (z_5)) hk (fun _ h => h.2)) (fun _ h => h.1)); have n2_ := Aside0.mk (KeepBut.trans (z_33) hk (.inl rfl)); have n3_ := Aside0.mk (hb); have n4_ := Aside0.mk (hi); clear HO_5; clear HO_10; clear HK; clear HB; clear HI0; have HO_5 := n0_; have HO_10 := n1_; have HK := n2_; have HB := n3_; have HI0 := n4_; clear n0_ n1_ n2_ n3_ n4_; (try clear hb); (try clear hb2); (try clear hk); (try clear hi)) | ((with_reducible refine gate_builtin (b := .append) (xs := #[.tmp 31, .tmp 34]) rfl ?_); at_builtin; refine Kd.R_append k26 w.heap.size rfl (.tmp 31) (.tmp 34) 36 26 (.agg #[(.string ⟨#[]⟩), (.int .i64 0), (.int .i64 0), (.string ⟨#[]⟩), (.int .i64 0)]) 56 rfl Try.underlying36 info26 rfl (z_5) (z_6) u5 x5_1 (⟨t217, t218, t219, t220, t221⟩ : S26) [.string t217, .int .i64 t218, .int .i64 t219, .string t220, .int .i64 t221] (fun _ => True) (fun _ => False) rfl rfl ?aP (fun _ hk => hk.elim) ?aF ?aO (Below.refl _ _) ?aS ?aL ?_; (case aP => exact k26_mkM _ _ _ (⟨t217, t218, t219, t220, t221⟩ : S26)); (case aF => exact z_53); (case aO => exact z_49); (case aS => exact (keep_size (w := w) (g := g) (row := none) (z_33))); (case aL => have := LMc25.out; omega); intro v224 w28 ho hb hg hat; rw [← Ny223.out] at ho; have n0_ := Aside0.mk (Kd.R_over' (z_47) (Kd.R_typed (z_11)) (z_5) hg); have n1_ := Aside0.mk (IsS96.grown (z_32) hg (IsS96.own_ne HI0.out HO_5.out (z_5))); have n2_ := Aside0.mk (below_weaken (z_34) HL.out hb); have n3_ := Aside0.mk (KeepBut.trans (z_33) (KeepBut.of_grown hg g) (Kd.R_base2 HO_5.out)); have n4_ := Aside0.mk (ho); clear HO_10; clear HI0; clear HB; clear HK; clear HO_5; have HO_10 := n0_; have HI0 := n1_; have HB := n2_; have HK := n3_; have HO225 := n4_; clear n0_ n1_ n2_ n3_ n4_; clear ho hb hg hat))
            go_ret
            exact ⟨_, z_13, by (with_reducible repeat (first | apply Kd.R_alloc | apply Kd.R_drewN | apply Kd.R_drew)); exact HO225.out, z_32, z_34, z_33⟩
          · rw [if_neg c25] at H
            exact absurd H (z_12)
        · replace c23 := Bool.eq_false_iff.mpr c23
          subst c23
          rw [if_neg (show ¬ (false = true) by decide)] at H
          simp only [Option.some.injEq, Prod.mk.injEq] at H
          obtain ⟨rfl, rfl⟩ := H
          go_wp2_with (first | ((with_reducible refine gate_callee (f := 78) rfl ?_); refine goesL_ (some 30) rfl rfl Try.func78 (z_0) rfl #[.pointer (some ⟨g, 0, none⟩), .int .i64 a1] rfl (z_14) ?_; (with_reducible refine (spec_l20Rd_odd.calls k1 g s0_0 x1001_1 a1 false t216 w0 _ ?side1 ?side2 A22.out).mono ?_); (case side1 => exact z_32); (case side2 => exact z_34); rintro e w29 ⟨rfl, hi, hb, hk⟩; refine ⟨_, rfl, ?_⟩; have n0_ := Aside0.mk (Kd.R_mono (Kd.R_keep (IsS96.apart (show IsS96 w0 _ g s0_0 x1001_1 from z_32) (z_11) (z_5)) hk (fun _ h => h.2)) (fun _ h => h.1)); have n1_ := Aside0.mk (Kd.R_mono (Kd.R_keep (IsS96.apart (show IsS96 w0 _ g s0_0 x1001_1 from z_32) (z_47) (z_5)) hk (fun _ h => h.2)) (fun _ h => h.1)); have n2_ := Aside0.mk (KeepBut.trans (z_33) hk (.inl rfl)); have n3_ := Aside0.mk (hb); have n4_ := Aside0.mk (hi); clear HO_5; clear HO_10; clear HK; clear HB; clear HI0; have HO_5 := n0_; have HO_10 := n1_; have HK := n2_; have HB := n3_; have HI0 := n4_; clear n0_ n1_ n2_ n3_ n4_; (try clear hb); (try clear hb2); (try clear hk); (try clear hi)))
          go_ret
          exact ⟨_, z_13, z_11, z_32, z_34, z_33⟩

/-! ### spec_DrawTexts: function 43 -/
def spec_DrawTexts.l0 : Nat → List (S26) → List ByteArray → List Int → Int → Int → List Int → Int → Option ((List (S26)) × List ByteArray × List Int)
  | 0, _, _, _, _, _, _, _ => none
  | k + 1, x6, x7, x8, x9, x10, x229000, x229001 => if x10 > 0 then ((spec_l20Rd_pick.f k x229000 x229001 9).bind fun bt241 => ((spec_l20Text.f k x229000 bt241.2).bind fun bt243 => (if x7.length < 8796093022208 then (if x8.length < 17592186044416 then (spec_DrawTexts.l0 k x6 (x7 ++ [bt243.1]) (x8 ++ [wrap64 (x9 + bt241.1)]) (wrap64 (x9 + bt241.1)) (wrap64 (x10 - 1)) x229000 bt243.2) else (none)) else (none)))) else (some (x6, x7, x8))
def spec_DrawTexts.f (k : Nat) (l0 : List Int) : Option ((List (S26)) × List ByteArray × List Int) := (spec_l20Open.f l0).bind fun bt226 => ((spec_l20Names.f k bt226.1 bt226.2 0).bind fun bt229 => ((spec_l20Rd_pick.f k bt226.1 bt229.2 14).bind fun bt239 => (spec_DrawTexts.l0 k bt229.1 (([] : List ByteArray)) (([] : List Int)) 0 bt239.1 bt226.1 bt239.2)))
theorem spec_DrawTexts.mono_l : ∀ k, (∀ y0 y1 y2 y3 y4 y5 y6, LeO (spec_DrawTexts.l0 k y0 y1 y2 y3 y4 y5 y6) (spec_DrawTexts.l0 (k + 1) y0 y1 y2 y3 y4 y5 y6))
  | 0 => fun _ _ _ _ _ _ _ r h => by simp [spec_DrawTexts.l0] at h
  | k + 1 => by
    have ih0 := spec_DrawTexts.mono_l k
    · intro y0 y1 y2 y3 y4 y5 y6
      unfold spec_DrawTexts.l0
      repeat' first
      | (with_reducible exact ih0 _ _ _ _ _ _ _)
      | (with_reducible exact spec_l20Names.mono _ _ _ _)
      | (with_reducible exact spec_l20Rd_pick.mono _ _ _ _)
      | (with_reducible exact spec_l20Text.mono _ _ _)
      | (with_reducible exact LeO.refl _)
      | (with_reducible exact LeO.none _)
      | (with_reducible refine LeO.ite ?_ ?_)
      | (with_reducible refine LeO.bind ?_ (fun _ => ?_))
      | exact ih0 _ _ _ _ _ _ _
      | exact spec_l20Names.mono _ _ _ _
      | exact spec_l20Rd_pick.mono _ _ _ _
      | exact spec_l20Text.mono _ _ _
      | exact LeO.none _
      | refine LeO.ite ?_ ?_
      | refine LeO.bind ?_ (fun _ => ?_)
theorem spec_DrawTexts.mono : ∀ a0 k, LeO (spec_DrawTexts.f k a0) (spec_DrawTexts.f (k + 1) a0) := by
  intro a0 k
  have ih0 := spec_DrawTexts.mono_l k
  unfold spec_DrawTexts.f
  repeat' first
      | (with_reducible exact ih0 _ _ _ _ _ _ _)
      | (with_reducible exact spec_l20Names.mono _ _ _ _)
      | (with_reducible exact spec_l20Rd_pick.mono _ _ _ _)
      | (with_reducible exact spec_l20Text.mono _ _ _)
      | (with_reducible exact LeO.refl _)
      | (with_reducible exact LeO.none _)
      | (with_reducible refine LeO.ite ?_ ?_)
      | (with_reducible refine LeO.bind ?_ (fun _ => ?_))
      | exact ih0 _ _ _ _ _ _ _
      | exact spec_l20Names.mono _ _ _ _
      | exact spec_l20Rd_pick.mono _ _ _ _
      | exact spec_l20Text.mono _ _ _
      | exact LeO.none _
      | refine LeO.ite ?_ ?_
      | refine LeO.bind ?_ (fun _ => ?_)
set_option maxHeartbeats 8000000 in
set_option maxRecDepth 100000 in
theorem spec_DrawTexts.calls (k : Nat) (A0 : Option Addr) (c0 : Nat) (l0 : List Int) (r1 : List (S26)) (r2 : List ByteArray) (r3 : List Int) (w : World) (hr0 : Kd.C (Kd.int .u8) w A0 l0.length l0) (hc0 : l0.length ≤ c0) (h : spec_DrawTexts.f k l0 = some (r1, r2, r3)) :
    Calls Try.prog 43 #[.slice A0 l0.length c0] w fun e w' => ∃ v0_ v1_ v2_ : Value, e = .returned (.tuple #[v0_, v1_, v2_]) ∧ Kd.R k26 26 w' w.heap.size (fun _ => True) v0_ r1 ∧ Kd.R Kd.string 9 w' w.heap.size (fun _ => True) v1_ r2 ∧ Kd.R (Kd.int .i64) 3 w' w.heap.size (fun _ => True) v2_ r3 ∧ Below w.heap.size w w' := by
  have HR0 := Aside0.mk hr0
  have HC0 := Aside0.mk hc0
  clear hr0 hc0
  have HB := Aside0.mk (Below.refl w.heap.size w)
  have H : ((spec_l20Open.f l0).bind fun bt226 => ((spec_l20Names.f k bt226.1 bt226.2 0).bind fun bt229 => ((spec_l20Rd_pick.f k bt226.1 bt229.2 14).bind fun bt239 => (spec_DrawTexts.l0 k bt229.1 (([] : List ByteArray)) (([] : List Int)) 0 bt239.1 bt226.1 bt239.2)))) = some (r1, r2, r3) := h
  clear h
  replace H := Option.bind_eq_some_iff.mp H
  obtain ⟨⟨t226, t227⟩, A20, H⟩ := H
  replace H : ((spec_l20Names.f k t226 t227 0).bind fun bt229 => ((spec_l20Rd_pick.f k t226 bt229.2 14).bind fun bt239 => (spec_DrawTexts.l0 k bt229.1 (([] : List ByteArray)) (([] : List Int)) 0 bt239.1 t226 bt239.2))) = some (r1, r2, r3) := H
  have A2 := Aside0.mk A20
  clear A20
  replace H := Option.bind_eq_some_iff.mp H
  obtain ⟨⟨t229, t232⟩, A30, H⟩ := H
  replace H : ((spec_l20Rd_pick.f k t226 t232 14).bind fun bt239 => (spec_DrawTexts.l0 k t229 (([] : List ByteArray)) (([] : List Int)) 0 bt239.1 t226 bt239.2)) = some (r1, r2, r3) := H
  have A3 := Aside0.mk A30
  clear A30
  obtain ⟨y233, hy233⟩ : ∃ y_ : List ByteArray, y_ = (([] : List ByteArray)) := ⟨_, rfl⟩
  replace H : ((spec_l20Rd_pick.f k t226 t232 14).bind fun bt239 => (spec_DrawTexts.l0 k t229 y233 (([] : List Int)) 0 bt239.1 t226 bt239.2)) = some (r1, r2, r3) := by first | (rw [hy233]; with_reducible exact H) | (have H2_ := (Option.bind_some _ _).symm.trans H; rw [hy233]; with_reducible exact H2_) | (have H2_ := (Option.bind_some _ _).symm.trans H; with_reducible exact H2_) | with_reducible exact H | (rw [hy233]; exact H) | exact H
  have Ny233 := Aside0.mk hy233
  clear hy233
  obtain ⟨y236, hy236⟩ : ∃ y_ : List Int, y_ = (([] : List Int)) := ⟨_, rfl⟩
  replace H : ((spec_l20Rd_pick.f k t226 t232 14).bind fun bt239 => (spec_DrawTexts.l0 k t229 y233 y236 0 bt239.1 t226 bt239.2)) = some (r1, r2, r3) := by first | (rw [hy236]; with_reducible exact H) | (have H2_ := (Option.bind_some _ _).symm.trans H; rw [hy236]; with_reducible exact H2_) | (have H2_ := (Option.bind_some _ _).symm.trans H; with_reducible exact H2_) | with_reducible exact H | (rw [hy236]; exact H) | exact H
  have Ny236 := Aside0.mk hy236
  clear hy236
  replace H := Option.bind_eq_some_iff.mp H
  obtain ⟨⟨t239, t240⟩, A40, H⟩ := H
  replace H : (spec_DrawTexts.l0 k t229 y233 y236 0 t239 t226 t240) = some (r1, r2, r3) := H
  have A4 := Aside0.mk A40
  clear A40
  have H' := Aside0.mk H
  clear H
  go_enter Try.func43, Try.ntmps43
  go_wp2_with (first | ((with_reducible refine gate_callee (f := 60) rfl ?_); refine goesL_ (some 12) rfl rfl Try.func60 (z_0) rfl #[.slice A0 l0.length c0] rfl (z_14) ?_; (with_reducible refine (spec_l20Open.calls _ _ l0 t226 t227 w _ ?side1 ?side2 ?side3 A2.out).mono ?_); (case side1 => exact z_8); (case side2 => exact HR0.out); (case side3 => exact HC0.out); rintro e w5 ⟨g228, rfl, hi, hb, hb2⟩; refine ⟨_, rfl, ?_⟩; have n0_ := Aside0.mk (hb); have n1_ := Aside0.mk (hi); clear HB; have HB := n0_; have HI228 := n1_; clear n0_ n1_; (try clear hb); (try clear hb2); (try clear hk); (try clear hi)) | ((with_reducible refine gate_callee (f := 62) rfl ?_); refine goesL_ (some 14) rfl rfl Try.func62 (z_0) rfl #[.pointer (some ⟨g228, 0, none⟩), .int .i64 0] rfl (z_14) ?_; (with_reducible refine (spec_l20Names.calls k g228 t226 t227 0 t229 t232 w _ ?side1 ?side2 A3.out).mono ?_); (case side1 => exact z_54); (case side2 => exact z_55); rintro e w6 ⟨v230, rfl, ho0, hi, hb, hk⟩; refine ⟨_, rfl, ?_⟩; have n0_ := Aside0.mk (Kd.R_lower ho0 (below_size (z_55))); have n1_ := Aside0.mk (hb); have n2_ := Aside0.mk (hi); clear HB; clear HI228; have HO231 := n0_; have HB := n1_; have HI228 := n2_; clear n0_ n1_ n2_; (try clear hb); (try clear hb2); (try clear hk); (try clear hi); (try clear ho0)) | ((with_reducible refine gate_dst (N := 15) rfl ?_); refine Kd.R_lit Kd.string _ 9 ?hg (N := 15) ?hd (xs := ([] : List ByteArray)) (inner := []) (ok := fun _ => True) (okp := fun _ => True) ?hr ?hp (fun _ hk => hk) trivial (Below.refl _ _) (Nat.le_refl _) (z_12) ?_; (case hd => rfl); (case hg => rfl); (case hr => exact z_9); (case hp => exact z_45); intro v234 w7 ho8 hb hg_ hnew_; clear hg_ hnew_; (first | rw [← Ny233.out] at ho8 | (simp only [Int.reduceToNat] at ho8; rw [← Ny233.out] at ho8)); have n0_ := Aside0.mk (Kd.R_below (z_56) hb); have n1_ := Aside0.mk (Kd.R_lower ho8 (below_size (z_55))); have n2_ := Aside0.mk (IsS96.below (z_54) hb); have n3_ := Aside0.mk (below_step (z_55) hb); clear HO231; clear HI228; clear HB; have HO231 := n0_; have HO235 := n1_; have HI228 := n2_; have HB := n3_; clear n0_ n1_ n2_ n3_; clear hb ho8) | ((with_reducible refine gate_dst (N := 16) rfl ?_); refine Kd.R_lit (Kd.int .i64) _ 3 ?hg (N := 16) ?hd (xs := ([] : List Int)) (inner := []) (ok := fun _ => True) (okp := fun _ => True) ?hr ?hp (fun _ hk => hk) trivial (Below.refl _ _) (Nat.le_refl _) (z_12) ?_; (case hd => rfl); (case hg => rfl); (case hr => exact z_9); (case hp => exact z_45); intro v237 w9 ho10 hb hg_ hnew_; clear hg_ hnew_; (first | rw [← Ny236.out] at ho10 | (simp only [Int.reduceToNat] at ho10; rw [← Ny236.out] at ho10)); have n0_ := Aside0.mk (Kd.R_below (z_56) hb); have n1_ := Aside0.mk (Kd.R_below (z_57) hb); have n2_ := Aside0.mk (Kd.R_lower ho10 (below_size (z_55))); have n3_ := Aside0.mk (IsS96.below (z_54) hb); have n4_ := Aside0.mk (below_step (z_55) hb); clear HO231; clear HO235; clear HI228; clear HB; have HO231 := n0_; have HO235 := n1_; have HO238 := n2_; have HI228 := n3_; have HB := n4_; clear n0_ n1_ n2_ n3_ n4_; clear hb ho10) | ((with_reducible refine gate_callee (f := 69) rfl ?_); refine goesL_ (some 18) rfl rfl Try.func69 (z_0) rfl #[.pointer (some ⟨g228, 0, none⟩), .int .i64 14] rfl (z_14) ?_; (with_reducible refine (spec_l20Rd_pick.calls k g228 t226 t232 14 t239 t240 w _ ?side1 ?side2 A4.out).mono ?_); (case side1 => exact z_54); (case side2 => exact z_55); rintro e w11 ⟨rfl, hi, hb, hk⟩; refine ⟨_, rfl, ?_⟩; have n0_ := Aside0.mk (Kd.R_mono (Kd.R_keep (IsS96.apart (show IsS96 w _ g228 t226 t232 from z_54) (z_56) (z_5)) hk (fun _ h => h.2)) (fun _ h => h.1)); have n1_ := Aside0.mk (Kd.R_mono (Kd.R_keep (IsS96.apart (show IsS96 w _ g228 t226 t232 from z_54) (z_57) (z_5)) hk (fun _ h => h.2)) (fun _ h => h.1)); have n2_ := Aside0.mk (Kd.R_mono (Kd.R_keep (IsS96.apart (show IsS96 w _ g228 t226 t232 from z_54) (z_58) (z_5)) hk (fun _ h => h.2)) (fun _ h => h.1)); have n3_ := Aside0.mk (hb); have n4_ := Aside0.mk (hi); clear HO231; clear HO235; clear HO238; clear HB; clear HI228; have HO231 := n0_; have HO235 := n1_; have HO238 := n2_; have HB := n3_; have HI228 := n4_; clear n0_ n1_ n2_ n3_ n4_; (try clear hb); (try clear hb2); (try clear hk); (try clear hi)))
  go_loopg [7, 8, 9, 10] k (fun kq v7 v8 v9 v10 w' => ∃ (x7_1 : List ByteArray) (x8_1 : List Int) (x9_1 : Int) (x10_1 : Int) (x229001_1 : Int), v9 = .int .i64 x9_1 ∧ v10 = .int .i64 x10_1 ∧ Aside0 (spec_DrawTexts.l0 kq t229 x7_1 x8_1 x9_1 x10_1 t226 x229001_1 = some (r1, r2, r3)) ∧ Aside0 (kq ≤ k) ∧ Aside0 (Kd.R k26 26 w' w.heap.size (fun _ => True) v230 t229) ∧ Aside0 (Kd.R Kd.string 9 w' w.heap.size (fun _ => True) v7 x7_1) ∧ Aside0 (Kd.R (Kd.int .i64) 3 w' w.heap.size (fun _ => True) v8 x8_1) ∧ Aside0 (IsS96 w w' g228 t226 x229001_1) ∧ Aside0 (Below w.heap.size w w'))
  case atStart => exact ⟨(y233), (y236), (0), (t239), (t240), (z_3), (z_3), H', ⟨Nat.le_refl _⟩, ⟨z_56⟩, ⟨z_57⟩, ⟨z_58⟩, ⟨z_54⟩, ⟨z_55⟩⟩
  case round =>
    clear H'
    try clear p2
    try clear c4
    try clear c6
    obtain ⟨x7_1, x8_1, x9_1, x10_1, x229001_1, rfl, rfl, HA, HK1, HO_6, HO_7, HO_8, HI228, HB⟩ := hrel
    cases gk with
    | zero => exact absurd HA.out (by simp [spec_DrawTexts.l0])
    | succ k1 =>
      have H := HA.out
      clear HA
      simp only [spec_DrawTexts.l0] at H
      by_cases c12 : x10_1 > 0
      · rw [if_pos c12] at H
        have c12b0 : decide (0 < x10_1) = true := decide_eq_true c12
        clear c12
        replace H := Option.bind_eq_some_iff.mp H
        obtain ⟨⟨t241, t242⟩, A130, H⟩ := H
        replace H : ((spec_l20Text.f k1 t226 t242).bind fun bt243 => (if x7_1.length < 8796093022208 then (if x8_1.length < 17592186044416 then (spec_DrawTexts.l0 k1 t229 (x7_1 ++ [bt243.1]) (x8_1 ++ [wrap64 (x9_1 + t241)]) (wrap64 (x9_1 + t241)) (wrap64 (x10_1 - 1)) t226 bt243.2) else (none)) else (none))) = some (r1, r2, r3) := H
        have A13 := Aside0.mk A130
        clear A130
        replace H := Option.bind_eq_some_iff.mp H
        obtain ⟨⟨t243, t244⟩, A140, H⟩ := H
        replace H : (if x7_1.length < 8796093022208 then (if x8_1.length < 17592186044416 then (spec_DrawTexts.l0 k1 t229 (x7_1 ++ [t243]) (x8_1 ++ [wrap64 (x9_1 + t241)]) (wrap64 (x9_1 + t241)) (wrap64 (x10_1 - 1)) t226 t244) else (none)) else (none)) = some (r1, r2, r3) := H
        have A14 := Aside0.mk A140
        clear A140
        by_cases c15 : x7_1.length < 8796093022208
        · rw [if_pos c15] at H
          have LMc15 := Aside0.mk c15
          clear c15
          obtain ⟨y245, hy245⟩ : ∃ y_ : List ByteArray, y_ = (x7_1 ++ [t243]) := ⟨_, rfl⟩
          replace H : (if x8_1.length < 17592186044416 then (spec_DrawTexts.l0 k1 t229 y245 (x8_1 ++ [wrap64 (x9_1 + t241)]) (wrap64 (x9_1 + t241)) (wrap64 (x10_1 - 1)) t226 t244) else (none)) = some (r1, r2, r3) := by first | (rw [hy245]; with_reducible exact H) | (have H2_ := (Option.bind_some _ _).symm.trans H; rw [hy245]; with_reducible exact H2_) | (have H2_ := (Option.bind_some _ _).symm.trans H; with_reducible exact H2_) | with_reducible exact H | (rw [hy245]; exact H) | exact H
          have Ny245 := Aside0.mk hy245
          clear hy245
          by_cases c16 : x8_1.length < 17592186044416
          · rw [if_pos c16] at H
            have LMc16 := Aside0.mk c16
            clear c16
            obtain ⟨y248, hy248⟩ : ∃ y_ : List Int, y_ = (x8_1 ++ [wrap64 (x9_1 + t241)]) := ⟨_, rfl⟩
            replace H : (spec_DrawTexts.l0 k1 t229 y245 y248 (wrap64 (x9_1 + t241)) (wrap64 (x10_1 - 1)) t226 t244) = some (r1, r2, r3) := by first | (rw [hy248]; with_reducible exact H) | (have H2_ := (Option.bind_some _ _).symm.trans H; rw [hy248]; with_reducible exact H2_) | (have H2_ := (Option.bind_some _ _).symm.trans H; with_reducible exact H2_) | with_reducible exact H | (rw [hy248]; exact H) | exact H
            have Ny248 := Aside0.mk hy248
            clear hy248
            have H' := Aside0.mk H
            clear H
            go_wp2_with (first | ((with_reducible refine gate_callee (f := 69) rfl ?_); refine goesL_ (some 25) rfl rfl Try.func69 (z_0) rfl #[.pointer (some ⟨g228, 0, none⟩), .int .i64 9] rfl (z_14) ?_; (with_reducible refine (spec_l20Rd_pick.calls k1 g228 t226 x229001_1 9 t241 t242 w _ ?side1 ?side2 A13.out).mono ?_); (case side1 => exact z_54); (case side2 => exact z_55); rintro e w17 ⟨rfl, hi, hb, hk⟩; refine ⟨_, rfl, ?_⟩; have n0_ := Aside0.mk (Kd.R_mono (Kd.R_keep (IsS96.apart (show IsS96 w _ g228 t226 x229001_1 from z_54) (z_59) (z_5)) hk (fun _ h => h.2)) (fun _ h => h.1)); have n1_ := Aside0.mk (Kd.R_mono (Kd.R_keep (IsS96.apart (show IsS96 w _ g228 t226 x229001_1 from z_54) (z_60) (z_5)) hk (fun _ h => h.2)) (fun _ h => h.1)); have n2_ := Aside0.mk (Kd.R_mono (Kd.R_keep (IsS96.apart (show IsS96 w _ g228 t226 x229001_1 from z_54) (z_61) (z_5)) hk (fun _ h => h.2)) (fun _ h => h.1)); have n3_ := Aside0.mk (hb); have n4_ := Aside0.mk (hi); clear HO_6; clear HO_7; clear HO_8; clear HB; clear HI228; have HO_6 := n0_; have HO_7 := n1_; have HO_8 := n2_; have HB := n3_; have HI228 := n4_; clear n0_ n1_ n2_ n3_ n4_; (try clear hb); (try clear hb2); (try clear hk); (try clear hi)) | ((with_reducible refine gate_callee (f := 68) rfl ?_); refine goesL_ (some 29) rfl rfl Try.func68 (z_0) rfl #[.pointer (some ⟨g228, 0, none⟩)] rfl (z_14) ?_; (with_reducible refine (spec_l20Text.calls k1 g228 t226 t242 t243 t244 w _ ?side1 ?side2 A14.out).mono ?_); (case side1 => exact z_54); (case side2 => exact z_55); rintro e w18 ⟨rfl, hi, hb, hk⟩; refine ⟨_, rfl, ?_⟩; have n0_ := Aside0.mk (Kd.R_mono (Kd.R_keep (IsS96.apart (show IsS96 w _ g228 t226 t242 from z_54) (z_59) (z_5)) hk (fun _ h => h.2)) (fun _ h => h.1)); have n1_ := Aside0.mk (Kd.R_mono (Kd.R_keep (IsS96.apart (show IsS96 w _ g228 t226 t242 from z_54) (z_60) (z_5)) hk (fun _ h => h.2)) (fun _ h => h.1)); have n2_ := Aside0.mk (Kd.R_mono (Kd.R_keep (IsS96.apart (show IsS96 w _ g228 t226 t242 from z_54) (z_61) (z_5)) hk (fun _ h => h.2)) (fun _ h => h.1)); have n3_ := Aside0.mk (hb); have n4_ := Aside0.mk (hi); clear HO_6; clear HO_7; clear HO_8; clear HB; clear HI228; have HO_6 := n0_; have HO_7 := n1_; have HO_8 := n2_; have HB := n3_; have HI228 := n4_; clear n0_ n1_ n2_ n3_ n4_; (try clear hb); (try clear hb2); (try clear hk); (try clear hi)) | ((with_reducible refine gate_builtin (b := .append) (xs := #[.tmp 27, .tmp 30]) rfl ?_); at_builtin; refine Kd.R_append Kd.string (w0 := w) w.heap.size rfl (.tmp 27) (.tmp 30) 57 9 (.string ⟨#[]⟩) 16 rfl Try.underlying57 info9 rfl (z_5) (z_6) u7 x7_1 t243 [.string t243] (fun _ => True) (fun _ => False) rfl rfl ?aP (fun _ hk => hk.elim) ?aF ?aO ?aB ?aS ?aL ?_; (case aP => exact rfl); (case aB => exact z_62); (case aF => exact z_53); (case aO => exact (z_60)); (case aS => exact z_63); (case aL => have := LMc15.out; omega); intro v246 w19 ho hb hg hat; rw [← Ny245.out] at ho; have n0_ := Aside0.mk (Kd.R_over' (z_59) (Kd.R_typed (z_60)) (z_5) hg); have n1_ := Aside0.mk (Kd.R_over' (z_61) (Kd.R_typed (z_60)) (z_5) hg); have n2_ := Aside0.mk (IsS96.grown (z_54) hg (IsS96.own_ne HI228.out HO_7.out (z_5))); have n3_ := Aside0.mk (hb); have n4_ := Aside0.mk (ho); clear HO_6; clear HO_8; clear HI228; clear HB; clear HO_7; have HO_6 := n0_; have HO_8 := n1_; have HI228 := n2_; have HB := n3_; have HO247 := n4_; clear n0_ n1_ n2_ n3_ n4_; clear ho hb hg hat) | ((with_reducible refine gate_builtin (b := .append) (xs := #[.tmp 32, .tmp 34]) rfl ?_); at_builtin; refine Kd.R_append (Kd.int .i64) (w0 := w) w.heap.size rfl (.tmp 32) (.tmp 34) 58 3 (.int .i64 0) 8 rfl Try.underlying58 info3 rfl (z_5) (z_6) u8 x8_1 (wrap64 (x9_1 + t241)) [.int .i64 (wrap64 (x9_1 + t241))] (fun _ => True) (fun _ => False) rfl rfl ?aP (fun _ hk => hk.elim) ?aF ?aO ?aB ?aS ?aL ?_; (case aP => exact rfl); (case aB => exact z_62); (case aF => exact z_53); (case aO => exact (z_61)); (case aS => exact z_63); (case aL => have := LMc16.out; omega); intro v249 w20 ho hb hg hat; rw [← Ny248.out] at ho; have n0_ := Aside0.mk (Kd.R_over' (z_59) (Kd.R_typed (z_61)) (z_5) hg); have n1_ := Aside0.mk (IsS96.grown (z_54) hg (IsS96.own_ne HI228.out HO_8.out (z_5))); have n2_ := Aside0.mk (Kd.R_over' (z_64) (Kd.R_typed (z_61)) (z_5) hg); have n3_ := Aside0.mk (hb); have n4_ := Aside0.mk (ho); clear HO_6; clear HI228; clear HO247; clear HB; clear HO_8; have HO_6 := n0_; have HI228 := n1_; have HO247 := n2_; have HB := n3_; have HO250 := n4_; clear n0_ n1_ n2_ n3_ n4_; clear ho hb hg hat))
            go_roundg k1
            case measure => have := HK1.out; omega
            case rel => exact ⟨(y245), (y248), (wrap64 (x9_1 + t241)), (wrap64 (x10_1 - 1)), (t244), (z_3), (z_3), H', ⟨z_10⟩, ⟨z_59⟩, ⟨z_64⟩, ⟨by (with_reducible repeat (first | apply Kd.R_alloc | apply Kd.R_drewN | apply Kd.R_drew)); exact HO250.out⟩, ⟨z_54⟩, ⟨z_55⟩⟩
          · rw [if_neg c16] at H
            exact absurd H (z_12)
        · rw [if_neg c15] at H
          exact absurd H (z_12)
      · rw [if_neg c12] at H
        have c12b0 : decide (0 < x10_1) = false := decide_eq_false c12
        clear c12
        simp only [Option.some.injEq, Prod.mk.injEq] at H
        obtain ⟨rfl, rfl, rfl⟩ := H
        go_wp2
        go_ret3
        exact ⟨_, _, _, z_13, z_59, z_60, z_61, z_55⟩

/-! ### impl_keptOk: function 73 -/
def impl_keptOk.f (k : Nat) (l0 : List (S83)) (l1 : List (S26)) (a2 : ByteArray) (a3 : Int) : Option (Bool) := (impl_KeptOk.f k l0).bind fun t251 => (if t251 = true then ((impl_NamesOk.f k l1).bind fun t252 => (if t252 = true then ((impl_textOk.f k a2).bind fun t253 => (if t253 = true then ((impl_in.f a3 0 900000).bind fun t254 => (some t254)) else (some false))) else (some false))) else (some false))
theorem impl_keptOk.mono : ∀ a0 a1 a2 a3 k, LeO (impl_keptOk.f k a0 a1 a2 a3) (impl_keptOk.f (k + 1) a0 a1 a2 a3) := by
  intro a0 a1 a2 a3 k
  unfold impl_keptOk.f
  repeat' first
      | (with_reducible exact impl_KeptOk.mono _ _)
      | (with_reducible exact impl_NamesOk.mono _ _)
      | (with_reducible exact impl_textOk.mono _ _)
      | (with_reducible exact LeO.refl _)
      | (with_reducible exact LeO.none _)
      | (with_reducible refine LeO.ite ?_ ?_)
      | (with_reducible refine LeO.bind ?_ (fun _ => ?_))
      | exact impl_KeptOk.mono _ _
      | exact impl_NamesOk.mono _ _
      | exact impl_textOk.mono _ _
      | exact LeO.none _
      | refine LeO.ite ?_ ?_
      | refine LeO.bind ?_ (fun _ => ?_)
set_option maxHeartbeats 8000000 in
set_option maxRecDepth 100000 in
theorem impl_keptOk.calls (k : Nat) (A0 : Option Addr) (c0 : Nat) (l0 : List (S83)) (A1 : Option Addr) (c1 : Nat) (l1 : List (S26)) (a2 : ByteArray) (a3 : Int) (r : Bool) (w : World) (hr0 : Kd.C k83 w A0 l0.length l0) (hc0 : l0.length ≤ c0) (hr1 : Kd.C k26 w A1 l1.length l1) (hc1 : l1.length ≤ c1) (h : impl_keptOk.f k l0 l1 a2 a3 = some r) :
    Calls Try.prog 73 #[.slice A0 l0.length c0, .slice A1 l1.length c1, .string a2, .int .i64 a3] w fun e w' => e = .returned (.bool r) ∧ Below w.heap.size w w' := by
  have HR0 := Aside0.mk hr0
  have HC0 := Aside0.mk hc0
  clear hr0 hc0
  have HR1 := Aside0.mk hr1
  have HC1 := Aside0.mk hc1
  clear hr1 hc1
  have HB := Aside0.mk (Below.refl w.heap.size w)
  have H : ((impl_KeptOk.f k l0).bind fun t251 => (if t251 = true then ((impl_NamesOk.f k l1).bind fun t252 => (if t252 = true then ((impl_textOk.f k a2).bind fun t253 => (if t253 = true then ((impl_in.f a3 0 900000).bind fun t254 => (some t254)) else (some false))) else (some false))) else (some false))) = some r := h
  clear h
  replace H := Option.bind_eq_some_iff.mp H
  obtain ⟨t251, A50, H⟩ := H
  have A5 := Aside0.mk A50
  clear A50
  by_cases c6 : t251 = true
  · subst c6
    rw [if_pos rfl] at H
    replace H := Option.bind_eq_some_iff.mp H
    obtain ⟨t252, A70, H⟩ := H
    have A7 := Aside0.mk A70
    clear A70
    by_cases c8 : t252 = true
    · subst c8
      rw [if_pos rfl] at H
      replace H := Option.bind_eq_some_iff.mp H
      obtain ⟨t253, A90, H⟩ := H
      have A9 := Aside0.mk A90
      clear A90
      by_cases c10 : t253 = true
      · subst c10
        rw [if_pos rfl] at H
        replace H := Option.bind_eq_some_iff.mp H
        obtain ⟨t254, A110, H⟩ := H
        have A11 := Aside0.mk A110
        clear A110
        obtain rfl := Option.some.inj H
        go_enter Try.func73, Try.ntmps73
        go_wp2_with (first | ((with_reducible refine gate_callee (f := 36) rfl ?_); refine goesL_ (some 10) rfl rfl Try.func36 (z_0) rfl #[.slice A0 l0.length c0] rfl (z_14) ?_; (with_reducible refine (impl_KeptOk.calls k _ _ l0 true _ ?side1 ?side2 A5.out).mono ?_); (case side1 => exact z_65); (case side2 => exact HC0.out); rintro e w12 ⟨rfl, hb⟩; refine ⟨_, rfl, ?_⟩; have n0_ := Aside0.mk (below_step (z_8) hb); clear HB; have HB := n0_; clear n0_; (try clear hb); (try clear hb2); (try clear hk); (try clear hi)) | (go_at_call 27; (with_reducible refine (impl_NamesOk.calls k _ _ l1 true _ ?side1 ?side2 A7.out).mono ?_); (case side1 => exact z_66); (case side2 => exact HC1.out); rintro e w13 ⟨rfl, hb⟩; have n0_ := Aside0.mk (below_step (z_8) hb); clear HB; have HB := n0_; clear n0_; (try clear hb); (try clear hb2); (try clear hk); (try clear hi)) | (go_at_call 56; (with_reducible refine (impl_textOk.calls k a2 true _ A9.out).mono ?_); rintro e w14 ⟨rfl, hb⟩; have n0_ := Aside0.mk (below_step (z_8) hb); clear HB; have HB := n0_; clear n0_; (try clear hb); (try clear hb2); (try clear hk); (try clear hi)) | (go_at_call 57; (with_reducible refine (impl_in.calls a3 0 900000 t254 _ A11.out).mono ?_); rintro e w' ⟨rfl, ⟨nd, rfl⟩⟩))
        go_ret
        exact ⟨z_13, z_8⟩
      · replace c10 := Bool.eq_false_iff.mpr c10
        subst c10
        rw [if_neg (show ¬ (false = true) by decide)] at H
        obtain rfl := Option.some.inj H
        go_enter Try.func73, Try.ntmps73
        go_wp2_with (first | ((with_reducible refine gate_callee (f := 36) rfl ?_); refine goesL_ (some 10) rfl rfl Try.func36 (z_0) rfl #[.slice A0 l0.length c0] rfl (z_14) ?_; (with_reducible refine (impl_KeptOk.calls k _ _ l0 true _ ?side1 ?side2 A5.out).mono ?_); (case side1 => exact z_65); (case side2 => exact HC0.out); rintro e w15 ⟨rfl, hb⟩; refine ⟨_, rfl, ?_⟩; have n0_ := Aside0.mk (below_step (z_8) hb); clear HB; have HB := n0_; clear n0_; (try clear hb); (try clear hb2); (try clear hk); (try clear hi)) | (go_at_call 27; (with_reducible refine (impl_NamesOk.calls k _ _ l1 true _ ?side1 ?side2 A7.out).mono ?_); (case side1 => exact z_66); (case side2 => exact HC1.out); rintro e w16 ⟨rfl, hb⟩; have n0_ := Aside0.mk (below_step (z_8) hb); clear HB; have HB := n0_; clear n0_; (try clear hb); (try clear hb2); (try clear hk); (try clear hi)) | (go_at_call 56; (with_reducible refine (impl_textOk.calls k a2 false _ A9.out).mono ?_); rintro e w17 ⟨rfl, hb⟩; have n0_ := Aside0.mk (below_step (z_8) hb); clear HB; have HB := n0_; clear n0_; (try clear hb); (try clear hb2); (try clear hk); (try clear hi)))
        go_ret
        exact ⟨z_13, z_8⟩
    · replace c8 := Bool.eq_false_iff.mpr c8
      subst c8
      rw [if_neg (show ¬ (false = true) by decide)] at H
      obtain rfl := Option.some.inj H
      go_enter Try.func73, Try.ntmps73
      go_wp2_with (first | ((with_reducible refine gate_callee (f := 36) rfl ?_); refine goesL_ (some 10) rfl rfl Try.func36 (z_0) rfl #[.slice A0 l0.length c0] rfl (z_14) ?_; (with_reducible refine (impl_KeptOk.calls k _ _ l0 true _ ?side1 ?side2 A5.out).mono ?_); (case side1 => exact z_65); (case side2 => exact HC0.out); rintro e w18 ⟨rfl, hb⟩; refine ⟨_, rfl, ?_⟩; have n0_ := Aside0.mk (below_step (z_8) hb); clear HB; have HB := n0_; clear n0_; (try clear hb); (try clear hb2); (try clear hk); (try clear hi)) | (go_at_call 27; (with_reducible refine (impl_NamesOk.calls k _ _ l1 false _ ?side1 ?side2 A7.out).mono ?_); (case side1 => exact z_66); (case side2 => exact HC1.out); rintro e w19 ⟨rfl, hb⟩; have n0_ := Aside0.mk (below_step (z_8) hb); clear HB; have HB := n0_; clear n0_; (try clear hb); (try clear hb2); (try clear hk); (try clear hi)))
      go_ret
      exact ⟨z_13, z_8⟩
  · replace c6 := Bool.eq_false_iff.mpr c6
    subst c6
    rw [if_neg (show ¬ (false = true) by decide)] at H
    obtain rfl := Option.some.inj H
    go_enter Try.func73, Try.ntmps73
    go_wp2_with (first | ((with_reducible refine gate_callee (f := 36) rfl ?_); refine goesL_ (some 10) rfl rfl Try.func36 (z_0) rfl #[.slice A0 l0.length c0] rfl (z_14) ?_; (with_reducible refine (impl_KeptOk.calls k _ _ l0 false _ ?side1 ?side2 A5.out).mono ?_); (case side1 => exact z_65); (case side2 => exact HC0.out); rintro e w20 ⟨rfl, hb⟩; refine ⟨_, rfl, ?_⟩; have n0_ := Aside0.mk (below_step (z_8) hb); clear HB; have HB := n0_; clear n0_; (try clear hb); (try clear hb2); (try clear hk); (try clear hi)))
    go_ret
    exact ⟨z_13, z_8⟩

/-! ### slices_Clip_86: function 86 -/
set_option maxHeartbeats 8000000 in
set_option maxRecDepth 100000 in
theorem slices_Clip_86.calls (A : Option Addr) (n c : Nat) (w : World) (hn : n ≤ c) (hm : n ≤ 9223372036854775807) :
    Calls Try.prog 86 #[.slice A n c] w fun e w' => e = .returned (.slice A n n) ∧ w' = w := by
  go_enter Try.func86, Try.ntmps86
  go_wp2
  go_ret
  exact ⟨rfl, rfl⟩

/-! ### impl_Kept_75: function 75 -/
def impl_Kept_75.f (l0 : List (S83)) : Option ((List (S83))) := if (l0.length : Int) = 0 then (some ([] : List (S83))) else ((some (([] : List (S83)) : List (S83))).bind fun y255 => (if y255.length + l0.length < 2199023255552 then (some (y255 ++ l0)) else (none)))
set_option maxHeartbeats 8000000 in
set_option maxRecDepth 100000 in
theorem impl_Kept_75.calls (A0 : Option Addr) (c0 : Nat) (l0 : List (S83)) (r : List (S83)) (w : World) (hr0 : Kd.C k83 w A0 l0.length l0) (hc0 : l0.length ≤ c0) (h : impl_Kept_75.f l0 = some r) :
    Calls Try.prog 75 #[.slice A0 l0.length c0] w fun e w' => ∃ v0_ : Value, e = .returned (v0_) ∧ Kd.R k83 83 w' w.heap.size (fun _ => True) v0_ r ∧ Below w.heap.size w w' := by
  have HR0 := Aside0.mk hr0
  have HC0 := Aside0.mk hc0
  clear hr0 hc0
  have HB := Aside0.mk (Below.refl w.heap.size w)
  have H : (if (l0.length : Int) = 0 then (some ([] : List (S83))) else ((some (([] : List (S83)) : List (S83))).bind fun y255 => (if y255.length + l0.length < 2199023255552 then (some (y255 ++ l0)) else (none)))) = some r := h
  clear h
  by_cases c2 : (l0.length : Int) = 0
  · rw [if_pos c2] at H
    have c2b0 : ((l0.length : Int) == 0) = true := beq_iff_eq.mpr c2
    have c2b1 : ((l0.length : Int) != 0) = false := bne_eq_false_iff_eq.mpr c2
    clear c2
    obtain rfl := Option.some.inj H
    go_enter Try.func75, Try.ntmps75
    go_wp2
    go_ret
    exact ⟨_, z_13, z_16, z_8⟩
  · rw [if_neg c2] at H
    have c2b0 : ((l0.length : Int) == 0) = false := beq_eq_false_iff_ne.mpr c2
    have c2b1 : ((l0.length : Int) != 0) = true := bne_iff_ne.mpr c2
    have c2b2 : ¬ (l0 = []) := fun h_ => c2 (by rw [h_]; rfl)
    obtain ⟨y255, hy255⟩ : ∃ y_ : List (S83), y_ = (([] : List (S83))) := ⟨_, rfl⟩
    replace H : (if y255.length + l0.length < 2199023255552 then (some (y255 ++ l0)) else (none)) = some r := by first | (rw [hy255]; with_reducible exact H) | (have H2_ := (Option.bind_some _ _).symm.trans H; rw [hy255]; with_reducible exact H2_) | (have H2_ := (Option.bind_some _ _).symm.trans H; with_reducible exact H2_) | with_reducible exact H | (rw [hy255]; exact H) | exact H
    have Ny255 := Aside0.mk hy255
    clear hy255
    by_cases c3 : y255.length + l0.length < 2199023255552
    · rw [if_pos c3] at H
      have LMc3 := Aside0.mk c3
      clear c3
      obtain ⟨y258, hy258⟩ : ∃ y_ : List (S83), y_ = (y255 ++ l0) := ⟨_, rfl⟩
      replace H : (some y258) = some r := by first | (rw [hy258]; with_reducible exact H) | (have H2_ := (Option.bind_some _ _).symm.trans H; rw [hy258]; with_reducible exact H2_) | (have H2_ := (Option.bind_some _ _).symm.trans H; with_reducible exact H2_) | with_reducible exact H | (rw [hy258]; exact H) | exact H
      have Ny258 := Aside0.mk hy258
      clear hy258
      obtain rfl := Option.some.inj H
      have HO257 := Aside0.mk (show Kd.R k83 83 w w.heap.size (fun _ => True) (.slice none 0 0) y255 by rw [Ny255.out]; exact Kd.R_nil _ _ _ _ _)
      have HL63_ := Aside0.mk (show y258.length ≤ 9223372036854775807 by rw [Ny258.out, List.length_append]; have := LMc3.out; omega)
      go_enter Try.func75, Try.ntmps75
      go_wp2_with (first | ((with_reducible refine gate_builtin (b := .append) (xs := #[.const (.slice none 0 0), .tmp 6]) rfl ?_); at_builtin; refine Kd.R_append_rows k83 (w0 := w) w.heap.size rfl (.const (.slice none 0 0)) (.tmp 6) 48 83 (.agg #[(.string ⟨#[]⟩), (.int .i64 0), (.int .i64 0), (.string ⟨#[]⟩), (.int .i64 0), (.int .i64 0)]) 64 rfl Try.underlying48 info83 rfl (z_5) (z_6) (.slice none 0 0) y255 l0 _ _ _ (fun _ => True) (fun _ => False) rfl rfl ?aO ?aR (fun _ _ h => h) (fun _ h => h.elim) ?aF ?aB ?aS ?aL ?_; (case aR => exact z_67); (case aB => exact z_18); (case aF => exact z_53); (case aO => exact (by (with_reducible repeat (first | apply Kd.R_alloc | apply Kd.R_drewN | apply Kd.R_drew)); exact HO257.out)); (case aS => exact z_19); (case aL => have := LMc3.out; omega); intro v259 w6 ho hb hg hat; rw [← Ny258.out] at ho; have n0_ := Aside0.mk (hb); have n1_ := Aside0.mk (ho); clear HB; clear HO257; have HB := n0_; have HO260 := n1_; clear n0_ n1_; clear ho hb hg hat; obtain ⟨Ax_, cx_, ex_⟩ := Kd.R_slice HO260.out; subst ex_; have HLx_ := Aside0.mk (Kd.R_le HO260.out)) | (go_at_call 86; (with_reducible refine (slices_Clip_86.calls _ _ _ _ HLx_.out HL63_.out).mono ?_); rintro e w' ⟨rfl, hw_⟩; subst hw_))
      go_ret
      exact ⟨_, z_13, by (with_reducible repeat (first | apply Kd.R_alloc | apply Kd.R_drewN | apply Kd.R_drew)); exact Kd.R_clip HO260.out, z_8⟩
    · rw [if_neg c3] at H
      exact absurd H (z_12)

/-! ### impl_Kept_84: function 84 -/
def impl_Kept_84.f (l0 : List (S83)) : Option ((List (S83))) := (some (([] : List (S83)) : List (S83))).bind fun y261 => (if y261.length + l0.length < 2199023255552 then (some (y261 ++ l0)) else (none))
set_option maxHeartbeats 8000000 in
set_option maxRecDepth 100000 in
theorem impl_Kept_84.calls (A0 : Option Addr) (c0 : Nat) (l0 : List (S83)) (r : List (S83)) (w : World) (hr0 : Kd.C k83 w A0 l0.length l0) (hc0 : l0.length ≤ c0) (h : impl_Kept_84.f l0 = some r) :
    Calls Try.prog 84 #[.slice A0 l0.length c0] w fun e w' => ∃ v0_ : Value, e = .returned (v0_) ∧ Kd.R k83 83 w' w.heap.size (fun _ => True) v0_ r ∧ Below w.heap.size w w' := by
  have HR0 := Aside0.mk hr0
  have HC0 := Aside0.mk hc0
  clear hr0 hc0
  have HB := Aside0.mk (Below.refl w.heap.size w)
  have H : ((some (([] : List (S83)) : List (S83))).bind fun y261 => (if y261.length + l0.length < 2199023255552 then (some (y261 ++ l0)) else (none))) = some r := h
  clear h
  obtain ⟨y261, hy261⟩ : ∃ y_ : List (S83), y_ = (([] : List (S83))) := ⟨_, rfl⟩
  replace H : (if y261.length + l0.length < 2199023255552 then (some (y261 ++ l0)) else (none)) = some r := by first | (rw [hy261]; with_reducible exact H) | (have H2_ := (Option.bind_some _ _).symm.trans H; rw [hy261]; with_reducible exact H2_) | (have H2_ := (Option.bind_some _ _).symm.trans H; with_reducible exact H2_) | with_reducible exact H | (rw [hy261]; exact H) | exact H
  have Ny261 := Aside0.mk hy261
  clear hy261
  by_cases c2 : y261.length + l0.length < 2199023255552
  · rw [if_pos c2] at H
    have LMc2 := Aside0.mk c2
    clear c2
    obtain ⟨y264, hy264⟩ : ∃ y_ : List (S83), y_ = (y261 ++ l0) := ⟨_, rfl⟩
    replace H : (some y264) = some r := by first | (rw [hy264]; with_reducible exact H) | (have H2_ := (Option.bind_some _ _).symm.trans H; rw [hy264]; with_reducible exact H2_) | (have H2_ := (Option.bind_some _ _).symm.trans H; with_reducible exact H2_) | with_reducible exact H | (rw [hy264]; exact H) | exact H
    have Ny264 := Aside0.mk hy264
    clear hy264
    obtain rfl := Option.some.inj H
    cases A0 with
    | none =>
      have e0_ : l0 = [] := by
        rcases Nat.eq_zero_or_pos l0.length with h0 | h0
        · exact List.eq_nil_of_length_eq_zero h0
        · obtain ⟨_, h1, _⟩ := HR0.out.2.2 h0
          cases h1
      have e1_ : y264 = [] := by rw [Ny264.out, Ny261.out, e0_]; rfl
      subst e0_
      have hq_ : ∀ w, (binOp .eql 48 (.slice none 0 c0) (.slice none 0 0)).run Try.prog w = .ok (.bool true) w := fun w => Lib.run_eql_slice_nil w 48 83 none _ _ _ _ Try.underlying48
      go_enter Try.func84, Try.ntmps84
      go_wp2
      go_ret
      exact ⟨_, rfl, by first | exact Kd.R_nil _ _ _ _ _ | (rw [e1_]; exact Kd.R_nil _ _ _ _ _), HB.out⟩
    | some ad =>
      have hq_ : ∀ w, (binOp .eql 48 (.slice (some ad) l0.length c0) (.slice none 0 0)).run Try.prog w = .ok (.bool false) w := fun w => Lib.run_eql_slice_nil w 48 83 (some ad) _ _ _ _ Try.underlying48
      go_enter Try.func84, Try.ntmps84
      go_wp2_with (first | ((with_reducible refine gate_dst (N := 5) rfl ?_); refine Kd.R_lit k83 _ 83 ?hg (N := 5) ?hd (xs := ([] : List (S83))) (inner := []) (ok := fun _ => True) (okp := fun _ => True) ?hr ?hp (fun _ hk => hk) trivial (Below.refl _ _) (Nat.le_refl _) (z_12) ?_; (case hd => rfl); (case hg => rfl); (case hr => exact z_9); (case hp => exact z_45); intro v262 w3 ho4 hb hg_ hnew_; clear hg_ hnew_; (first | rw [← Ny261.out] at ho4 | (simp only [Int.reduceToNat] at ho4; rw [← Ny261.out] at ho4)); have n0_ := Aside0.mk (Kd.R_lower ho4 (below_size (z_8))); have n1_ := Aside0.mk (below_step (z_8) hb); clear HB; have HO263 := n0_; have HB := n1_; clear n0_ n1_; clear hb ho4) | ((with_reducible refine gate_builtin (b := .append) (xs := #[.tmp 5, .tmp 6]) rfl ?_); at_builtin; refine Kd.R_append_rows k83 (w0 := w) w.heap.size rfl (.tmp 5) (.tmp 6) 48 83 (.agg #[(.string ⟨#[]⟩), (.int .i64 0), (.int .i64 0), (.string ⟨#[]⟩), (.int .i64 0), (.int .i64 0)]) 64 rfl Try.underlying48 info83 rfl (z_5) (z_6) v262 y261 l0 _ _ _ (fun _ => True) (fun _ => False) rfl rfl ?aO ?aR (fun _ _ h => h) (fun _ h => h.elim) ?aF ?aB ?aS ?aL ?_; (case aR => exact z_67); (case aB => exact z_18); (case aF => exact z_53); (case aO => exact (by (with_reducible repeat (first | apply Kd.R_alloc | apply Kd.R_drewN | apply Kd.R_drew)); exact HO263.out)); (case aS => exact z_19); (case aL => have := LMc2.out; omega); intro v265 w5 ho hb hg hat; rw [← Ny264.out] at ho; have n0_ := Aside0.mk (hb); have n1_ := Aside0.mk (ho); clear HB; clear HO263; have HB := n0_; have HO266 := n1_; clear n0_ n1_; clear ho hb hg hat))
      go_ret
      exact ⟨_, z_13, by (with_reducible repeat (first | apply Kd.R_alloc | apply Kd.R_drewN | apply Kd.R_drew)); exact HO266.out, z_8⟩
  · rw [if_neg c2] at H
    exact absurd H (z_12)

/-! ### impl_Kept_85: function 85 -/
mutual
def impl_Kept_85.j0 : Nat → List (S83) → Int → Option ((List (S83)))
  | 0, _, _ => none
  | k + 1, x0, x1 => if 0 ≤ x1 then (if x1 < (x0.length : Int) then (impl_Kept_85.l0 k x0 x1) else (none)) else (none)
def impl_Kept_85.l0 : Nat → List (S83) → Int → Option ((List (S83)))
  | 0, _, _ => none
  | k + 1, x0, x8 => if (wrap64 (x8 + 1)) < (x0.length : Int) then (if 0 ≤ (wrap64 (x8 + 1)) then (if 0 ≤ x8 then (if x8 < (x0.length : Int) then (impl_Kept_85.l0 k (x0.set (x8 : Int).toNat (⟨(⟨(rd_T83 x0 (wrap64 (x8 + 1))).f0.f0, (rd_T83 x0 (wrap64 (x8 + 1))).f0.f1, (rd_T83 x0 (wrap64 (x8 + 1))).f0.f2, (rd_T83 x0 (wrap64 (x8 + 1))).f0.f3, (rd_T83 x0 (wrap64 (x8 + 1))).f0.f4⟩ : S26), (rd_T83 x0 (wrap64 (x8 + 1))).f1⟩ : S83)) (wrap64 (x8 + 1))) else (none)) else (none)) else (none)) else (if 0 ≤ (wrap64 ((x0.length : Int) - 1)) then (if (wrap64 ((x0.length : Int) - 1)) ≤ (x0.length : Int) then (some (x0.take ((wrap64 ((x0.length : Int) - 1)) : Int).toNat)) else (none)) else (none))
end
def impl_Kept_85.f (k : Nat) (l0 : List (S83)) (a1 : Int) (a2 : Int) : Option ((List (S83))) := if a2 = (wrap64 (a1 + 1)) then (impl_Kept_85.j0 k l0 a1) else (if 1 < ((([0] : List Int)).length : Int) then (impl_Kept_85.j0 k l0 a1) else (none))
theorem impl_Kept_85.mono_l : ∀ k, (∀ y0 y1, LeO (impl_Kept_85.j0 k y0 y1) (impl_Kept_85.j0 (k + 1) y0 y1)) ∧ (∀ y0 y1, LeO (impl_Kept_85.l0 k y0 y1) (impl_Kept_85.l0 (k + 1) y0 y1))
  | 0 => ⟨fun _ _ r h => by simp [impl_Kept_85.j0] at h, fun _ _ r h => by simp [impl_Kept_85.l0] at h⟩
  | k + 1 => by
    obtain ⟨ih0, ih1⟩ := impl_Kept_85.mono_l k
    refine ⟨?_, ?_⟩
    · intro y0 y1
      unfold impl_Kept_85.j0
      repeat' first
      | (with_reducible exact ih0 _ _)
      | (with_reducible exact ih1 _ _)
      | (with_reducible exact LeO.refl _)
      | (with_reducible exact LeO.none _)
      | (with_reducible refine LeO.ite ?_ ?_)
      | (with_reducible refine LeO.bind ?_ (fun _ => ?_))
      | exact ih0 _ _
      | exact ih1 _ _
      | exact LeO.none _
      | refine LeO.ite ?_ ?_
      | refine LeO.bind ?_ (fun _ => ?_)
    · intro y0 y1
      unfold impl_Kept_85.l0
      repeat' first
      | (with_reducible exact ih0 _ _)
      | (with_reducible exact ih1 _ _)
      | (with_reducible exact LeO.refl _)
      | (with_reducible exact LeO.none _)
      | (with_reducible refine LeO.ite ?_ ?_)
      | (with_reducible refine LeO.bind ?_ (fun _ => ?_))
      | exact ih0 _ _
      | exact ih1 _ _
      | exact LeO.none _
      | refine LeO.ite ?_ ?_
      | refine LeO.bind ?_ (fun _ => ?_)
theorem impl_Kept_85.mono : ∀ a0 a1 a2 k, LeO (impl_Kept_85.f k a0 a1 a2) (impl_Kept_85.f (k + 1) a0 a1 a2) := by
  intro a0 a1 a2 k
  obtain ⟨ih0, ih1⟩ := impl_Kept_85.mono_l k
  unfold impl_Kept_85.f
  repeat' first
      | (with_reducible exact ih0 _ _)
      | (with_reducible exact ih1 _ _)
      | (with_reducible exact LeO.refl _)
      | (with_reducible exact LeO.none _)
      | (with_reducible refine LeO.ite ?_ ?_)
      | (with_reducible refine LeO.bind ?_ (fun _ => ?_))
      | exact ih0 _ _
      | exact ih1 _ _
      | exact LeO.none _
      | refine LeO.ite ?_ ?_
      | refine LeO.bind ?_ (fun _ => ?_)
theorem del_tells : ∀ (k : Nat) (x : List S83) (j : Nat) (r : List S83), j < x.length → x.length ≤ 9223372036854775807 → impl_Kept_85.l0 k x j = some r → r = x.take j ++ x.drop (j + 1) := by
  intro k
  induction k with
  | zero => intro x j r _ _ h; simp [impl_Kept_85.l0] at h
  | succ k ih =>
    intro x j r hj hm h
    have e : wrap64 ((j : Int) + 1) = ((j + 1 : Nat) : Int) := by unfold wrap64; omega
    simp only [impl_Kept_85.l0] at h
    rw [e] at h
    by_cases c : ((j + 1 : Nat) : Int) < (x.length : Int)
    · rw [if_pos c, if_pos (z_6), if_pos (z_6), if_pos (z_6)] at h
      have h2 := ih _ (j + 1) r (by rw [List.length_set]; omega) (by rw [List.length_set]; exact hm) h
      have hj1 : j + 1 < x.length := z_6
      have hv : rd_T83 x ((j + 1 : Nat) : Int) = x[j + 1] := by unfold rd_T83; rw [Int.toNat_natCast, List.getD_eq_getElem?_getD, List.getElem?_eq_getElem hj1]; rfl
      have h3 : x.drop (j + 1) = x[j + 1] :: x.drop (j + 1 + 1) := List.drop_eq_getElem_cons hj1
      have hl : (x.take j).length = j := by rw [List.length_take]; omega
      rw [h2, Int.toNat_natCast, List.set_eq_take_append_cons_drop, if_pos hj, List.take_append, List.drop_append, hl, h3, hv, List.take_of_length_le (z_6 : (x.take j).length ≤ j + 1), List.drop_of_length_le (z_6 : (x.take j).length ≤ j + 1 + 1)]
      have e1 : j + 1 - j = 1 := z_6
      have e2 : j + 1 + 1 - j = 2 := z_6
      rw [e1, e2]
      simp
      exact h3.symm
    · rw [if_neg c] at h
      have e3 : wrap64 ((x.length : Int) - 1) = (j : Int) := by unfold wrap64; omega
      rw [e3, if_pos (z_6), if_pos (z_6), Int.toNat_natCast] at h
      rw [← Option.some.inj h, List.drop_of_length_le (z_6), List.append_nil]
theorem del_f {k : Nat} {x r : List S83} {a1 a2 : Int} (hm : x.length ≤ 9223372036854775807) (h : impl_Kept_85.f k x a1 a2 = some r) : ∃ j : Nat, a1 = j ∧ a2 = ((j + 1 : Nat) : Int) ∧ j < x.length ∧ r = x.take j ++ x.drop (j + 1) := by
  unfold impl_Kept_85.f at h
  by_cases c : a2 = wrap64 (a1 + 1)
  · rw [if_pos c] at h
    cases k with
    | zero => exact absurd h (by simp [impl_Kept_85.j0])
    | succ k =>
      simp only [impl_Kept_85.j0] at h
      by_cases c1 : 0 ≤ a1
      · rw [if_pos c1] at h
        by_cases c2 : a1 < (x.length : Int)
        · rw [if_pos c2] at h
          obtain ⟨j, rfl⟩ := Int.eq_ofNat_of_zero_le c1
          exact ⟨j, rfl, by rw [c]; unfold wrap64; omega, z_6, del_tells k x j r (z_6) hm h⟩
        · rw [if_neg c2] at h; exact absurd h (z_12)
      · rw [if_neg c1] at h; exact absurd h (z_12)
  · rw [if_neg c] at h
    rw [if_neg (z_12)] at h
    exact absurd h (z_12)
set_option maxHeartbeats 8000000 in
set_option maxRecDepth 100000 in
theorem impl_Kept_85.calls (k : Nat) (P0_ : Nat → Prop) (u9000_ : Value) (l0 : List (S83)) (a1 : Int) (a2 : Int) (r : List (S83)) (w0 w : World) (hB : Below w0.heap.size w0 w) (ho0 : Kd.R k83 83 w w0.heap.size P0_ u9000_ l0) (h : impl_Kept_85.f k l0 a1 a2 = some r) :
    Calls Try.prog 85 #[u9000_, .int .i64 a1, .int .i64 a2] w fun e w' => ∃ v0_ : Value, e = .returned (v0_) ∧ Kd.R k83 83 w' w0.heap.size (fun k_ => (P0_ k_ ∨ w.heap.size ≤ k_)) v0_ r ∧ Below w0.heap.size w0 w' ∧ Kept w w' (fun k_ => P0_ k_) := by
  obtain ⟨hok, inner, ho, hr⟩ := ho0
  have hm : l0.length ≤ 9223372036854775807 := by
    rcases ho.2 with ⟨_, h0⟩ | ⟨_, _, cur, _, _, hg, h1, h2, _⟩
    · omega
    · simp only [maxLen] at h2; omega
  obtain ⟨i, rfl, rfl, hi, rfl⟩ := del_f hm h
  clear h
  obtain ⟨g, cap, rfl, _, hgl⟩ := ho.form (z_6)
  obtain ⟨cur, hg, hbg, hnc, hcm, hcs, ht⟩ := ho.block
  have hs6 : (k83).sz = 6 := rfl
  rw [hs6] at hcs ht
  obtain ⟨n, hn⟩ : ∃ n, n = l0.length := ⟨_, rfl⟩
  have hil : inner.length = n * 6 := by rw [ho.1, hs6, hn]
  obtain ⟨news, hnews⟩ : ∃ news, news = inner.drop ((i + 1) * 6) := ⟨_, rfl⟩
  have hnl : news.length = (n - (i + 1)) * 6 := by rw [hnews, List.length_drop, hil]; omega
  have hcell : ∀ q u, inner[q]? = some u → w.cell? ⟨g, q, none⟩ = some u := by
    intro q u hu
    have hq : q < inner.length := (List.getElem?_eq_some_iff.1 hu).1
    rw [ho.cellAt q (by rw [hs6, ← hn]; omega)]; exact hu
  have hsome : ∀ q, q < n * 6 → (w.cell? ⟨g, q, none⟩).isSome = true ∧ w.frozen? ⟨g, q, none⟩ = false := by
    intro q hq
    refine ⟨?_, ho.frozenAt q⟩
    rw [hcell q (inner[q]'(z_6)) (List.getElem?_eq_getElem (z_6))]; rfl
  -- the cells that are moved to the left, and where they lie
  obtain ⟨A, hA, hsrc⟩ : ∃ A : Addr, (if cap = i + 1 then some (⟨g, 0, none⟩ : Addr) else some ⟨g, (i + 1) * 6, none⟩) = some A ∧ (∀ t u, news[t]? = some u → w.drew.cell? (A.add t) = some u) := by
    by_cases h : cap = i + 1
    · refine ⟨⟨g, 0, none⟩, by simp [h], fun t u hu => ?_⟩
      have h0 : news.length = 0 := by rw [hnl]; omega
      rw [List.length_eq_zero_iff.1 h0] at hu
      simp at hu
    · refine ⟨⟨g, (i + 1) * 6, none⟩, by simp [h], fun t u hu => ?_⟩
      rw [hnews, List.getElem?_drop] at hu
      rw [Addr.add_lit]
      exact hcell _ _ hu
  have hone : ∀ u ∈ inner, u.oneCell' = true := by
    intro u hu
    exact Kd.reps_one hr (z_5) (fun p c hp => k83.K_one (k83.K_of_M hp)) u hu
  -- the world behind the append
  obtain ⟨W1, hW1⟩ : ∃ W1, W1 = w.drew.setCells g (0 + i * 6) news := ⟨_, rfl⟩
  have hfit : i * 6 + news.length ≤ cur.size := by
    have h1 : cap * 6 ≤ cur.size := hcs
    omega
  obtain ⟨cur1, hg1, hs1, hc1⟩ := setCells_row news (0 + i * 6) w.drew cur hg (z_6)
  rw [← hW1] at hg1
  obtain ⟨o, ho_⟩ : ∃ o, o = (i + (n - (i + 1))) * 6 := ⟨_, rfl⟩
  obtain ⟨W2, hW2⟩ : ∃ W2, W2 = W1.setCells g o [.string ⟨#[]⟩, .int .i64 0, .int .i64 0, .string ⟨#[]⟩, .int .i64 0, .int .i64 0] := ⟨_, rfl⟩
  have hcl : ∀ ty, (Builtin.clear_ #[48] ty #[.slice (some ⟨g, o, none⟩) (n - (i + (n - (i + 1)))) (cap - (i + (n - (i + 1))))]).run Try.prog W1 = .ok (.tuple #[]) W2 := by
    intro ty
    have hone1 : n - (i + (n - (i + 1))) = 1 := z_6
    rw [hone1]
    have hst := run_storeCells_cells (P := Try.prog) g o [.string ⟨#[]⟩, .int .i64 0, .int .i64 0, .string ⟨#[]⟩, .int .i64 0, .int .i64 0] 0 W1
      (fun q hq => by
        have hq6 : q < 6 := hq
        have h1 : cap * 6 ≤ cur.size := hcs
        rw [blk_cell hg1, Array.getElem?_eq_getElem (z_6)]; rfl) (fun q hq => blk_frozen hg1 _) (z_5)
    simp only [Nat.add_zero] at hst
    rw [← hW2] at hst
    simp [Builtin.clear_, run_underlying Try.underlying48, Try.zeroValue83, Builtin.zeroCells, Value.cells, List.range, List.range.loop, hst]
  have hp6 : i * 6 ≤ n * 6 := Nat.mul_le_mul_right _ (z_6)
  have ho6 : o + 6 ≤ cur1.size := by
    have h1 : cap * 6 ≤ cur.size := hcs
    omega
  obtain ⟨cur2, hg2, hs2, hc2⟩ := setCells_row [.string ⟨#[]⟩, .int .i64 0, .int .i64 0, .string ⟨#[]⟩, .int .i64 0, .int .i64 0] o W1 cur1 hg1 ho6
  rw [← hW2] at hg2
  have hfar : ∀ k, k ≠ g → W2.heap[k]? = w.heap[k]? := fun k hk => by
    rw [hW2, setCells_far _ _ k hk, hW1, setCells_far _ _ k hk]; rfl
  have hsame : W2.os = w.os ∧ W2.tape = w.tape ∧ W2.output = w.output ∧ W2.heap.size = w.heap.size := by
    have h1 := setCells_same g news (0 + i * 6) w.drew
    have h2 := setCells_same g [.string ⟨#[]⟩, .int .i64 0, .int .i64 0, .string ⟨#[]⟩, .int .i64 0, .int .i64 0] o W1
    rw [← hW1] at h1
    rw [← hW2] at h2
    exact ⟨h2.1.trans h1.1, h2.2.1.trans h1.2.1, h2.2.2.1.trans h1.2.2.1, h2.2.2.2.trans h1.2.2.2⟩
  have hlen : (l0.take i ++ l0.drop (i + 1)).length = i + (n - (i + 1)) := by rw [List.length_append, List.length_take, List.length_drop]; omega
  have hR : Kd.R k83 83 W2 w0.heap.size (fun k_ => (P0_ k_ ∨ w.heap.size ≤ k_)) (.slice (some ⟨g, 0, none⟩) (i + (n - (i + 1))) cap) (l0.take i ++ l0.drop (i + 1)) := by
    refine ⟨fun k hk => Or.inl (hok k hk), inner.take (i * 6) ++ news, ?_, ?_⟩
    · refine ⟨?_, Or.inr ⟨g, cap, cur2, by rw [hlen], hbg, hg2, z_6, hcm, by rw [hs2, hs1]; exact hcs, ?_⟩⟩
      · rw [List.length_append, List.length_take, hil, hnl, hlen]
        show min (i * 6) (n * 6) + _ = _ * 6
        omega
      · rw [hlen, hc2]
        show List.take ((i + (n - (i + 1))) * 6) _ = _
        rw [← ho_, List.append_assoc, List.take_append_of_le_length (by rw [List.length_take, Array.length_toList]; omega), List.take_take, Nat.min_self, hc1, Nat.zero_add,
          List.take_append_of_le_length (by rw [List.length_append, List.length_take, Array.length_toList, hnl]; omega),
          List.take_of_length_le (by rw [List.length_append, List.length_take, Array.length_toList, hnl]; omega), ← ht, List.take_take, Nat.min_eq_left (z_6)]
    · rw [hnews]
      refine Kd.reps_append (Kd.reps_take (hr.imp_ fun p c hp => ?_) (z_6)) (Kd.reps_drop (hr.imp_ fun p c hp => ?_))
      · exact k83.M_mono (fun k hk => ⟨Or.inl hk.1, hk.2⟩) (k83.M_move (fun k hk => hfar k (fun e => hk.2 (by rw [e]; rfl))) hp)
      · exact k83.M_mono (fun k hk => ⟨Or.inl hk.1, hk.2⟩) (k83.M_move (fun k hk => hfar k (fun e => hk.2 (by rw [e]; rfl))) hp)
  have hBW : Below w0.heap.size w0 W2 := ⟨hsame.1.trans hB.os, hsame.2.1.trans hB.tape, hsame.2.2.1.trans hB.output, by rw [hsame.2.2.2]; exact hB.size, fun k hk => (hfar k (z_6)).trans (hB.block k hk)⟩
  have hKW : Kept w W2 (fun k_ => P0_ k_) := ⟨by rw [hsame.2.2.2]; exact Nat.le_refl _, fun k hk hn => hfar k (fun e => hn (by rw [e]; exact hok g rfl))⟩
  rw [ho_] at hcl
  have HRR := Aside0.mk hR
  have HBW := Aside0.mk hBW
  have HKW := Aside0.mk hKW
  clear hR hBW hKW hsame hfar hg2 hs2 hc2 ho6 hp6 hlen ho_
  have HX1 := Aside0.mk hW1
  have HX2 := Aside0.mk hW2
  have HG := Aside0.mk hg
  have HG1 := Aside0.mk hg1
  have HC1 := Aside0.mk hc1
  have HT := Aside0.mk ht
  have HR := Aside0.mk hr
  have HO := Aside0.mk ho
  have HN := Aside0.mk hnews
  have HNL := Aside0.mk hnl
  have HSRC := Aside0.mk hsrc
  have HSOME := Aside0.mk hsome
  have HONE := Aside0.mk (fun u (hu : u ∈ news) => hone u (by rw [hnews] at hu; exact List.mem_of_mem_drop hu))
  have HOK := Aside0.mk hok
  have HB' := Aside0.mk hB
  have hic : i ≤ cap := z_6
  have hjc : i + 1 ≤ cap := z_6
  have hin : i < n := z_6
  have hcap : n ≤ cap := z_6
  have hz1 : (0 : Int) ≤ (i : Int) + 1 := z_6
  have hz2 : (i : Int) + 1 ≤ (n : Int) := z_6
  rw [← hn]
  have HNN := Aside0.mk hn
  clear hn
  have hcm' : cap ≤ 9223372036854775807 := hcm
  clear hW1 hW2 hg hg1 hc1 ht hr ho hnews hnl hsrc hsome hone hok hB hcell hs6 hil hcs hcm hfit hs1 hi hnc hm hbg
  go_enter Try.func85, Try.ntmps85
  go_wp2_with fail
  go_region_law (refine step_append_room rfl (.tmp 22) (.tmp 25) 48 rfl 83 _ 6 Try.underlying48 rfl rfl g 0 i cap (by simp [Act.eval, Act.put]) A (n - (i + 1)) (cap - (i + 1)) news (by simp [Act.eval, Act.put]) HNL.out HSRC.out HONE.out (z_6) (fun q hq => by have h1 := HNL.out; have h2 := HSOME.out (0 + i * 6 + q) (z_6); exact h2) ?_; rw [← HX1.out])
  go_wp2
  go_ret
  exact ⟨_, rfl, HRR.out, HBW.out, HKW.out⟩

end Go.Proofs.Ytmgnmgobibpjjaa.GFnTexts
