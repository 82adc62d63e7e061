/- What the Go functions that FnKeptOk reaches come to, walked step by step; there is no condition beyond those each statement names. -/
import Derived.Test.YtmgnmgobibpjjaaGFnKeptOkx0
import Derived.Test.YtmgnmgobibpjjaaGFnKeptOkx5
namespace Go.Proofs.Ytmgnmgobibpjjaa.GFnKeptOk
open Go.RowKit Go.Proofs.YtmgnmgobibpjjaaVKeptOk.PrintWords Go.Proofs.YtmgnmgobibpjjaaVKeptOk.PrintLast Go.Proofs.YtmgnmgobibpjjaaVKeptOk.PrintMore
attribute [local go_sem] max2_int min2_int max_two min_two max_three min_three max_four min_four   -- for this text's walks alone
set_option linter.unusedVariables false
set_option linter.unusedSimpArgs false

/-! ### spec_l20Names: function 62 -/
def spec_l20Names.l0 : Nat → Int → List (S26) → List ByteArray → Int → Int → List Int → Int → Option ((List (S26)) × Int)
 | 0, _, _, _, _, _, _, _ => none
 | k + 1, x1, x5, x10, x11, x12, x1000, x1001 => if x12 < x11 then (if 0 ≤ x12 then (if x12 < (x10.length : Int) then ((spec_l20Rd_pick.f k x1000 x1001 3).bind fun bt200 => (if bt200.1 > 0 then ((spec_l20Name.f k x1000 bt200.2 0).bind fun bt202 => (if x5.length < 2513169434916 then (spec_l20Names.l0 k x1 (x5 ++ [(⟨rdOf ByteArray.empty x10 x12, bt202.2.1, bt202.2.2.1, bt202.2.2.2.1, bt202.2.2.2.2.1⟩ : S26)]) x10 x11 (wrap64 (x12 + 1)) x1000 bt202.2.2.2.2.2) else (none))) else (spec_l20Names.l0 k x1 x5 x10 x11 (wrap64 (x12 + 1)) x1000 bt200.2))) else (none)) else (none)) else ((spec_l20Rd_odd.f k x1000 x1001 x1).bind fun bt212 => (if bt212.1 = true then ((spec_l20Name.f k x1000 bt212.2 1).bind fun bt214 => (if x5.length < 2513169434916 then (some ((x5 ++ [(⟨bt214.1, bt214.2.1, bt214.2.2.1, bt214.2.2.2.1, bt214.2.2.2.2.1⟩ : S26)]), bt214.2.2.2.2.2)) else (none))) else (some (x5, bt212.2))))
def spec_l20Names.f (k : Nat) (s0_0 : List Int) (s0_1 : Int) (a1 : Int) : Option ((List (S26)) × Int) := (some (([(⟨#[97]⟩ : ByteArray), (⟨#[98]⟩ : ByteArray), (⟨#[99]⟩ : ByteArray), (⟨#[100, 100]⟩ : ByteArray), (⟨#[101, 101]⟩ : ByteArray), (⟨#[102]⟩ : ByteArray), (⟨#[103, 103]⟩ : ByteArray)] : List ByteArray) : List ByteArray)).bind fun y196 => (spec_l20Names.l0 k a1 (([] : List (S26))) y196 (y196.length : Int) 0 s0_0 s0_1)
theorem spec_l20Names.mono_l : ∀ k, (∀ y0 y1 y2 y3 y4 y5 y6, LeO (spec_l20Names.l0 k y0 y1 y2 y3 y4 y5 y6) (spec_l20Names.l0 (k + 1) y0 y1 y2 y3 y4 y5 y6))
 | 0 => fun _ _ _ _ _ _ _ r h => by simp [spec_l20Names.l0] at h
 | k + 1 => by
  have ih0 := spec_l20Names.mono_l k
  ·intro y0 y1 y2 y3 y4 y5 y6
   unfold spec_l20Names.l0
   repeat' first
   | (with_reducible exact ih0 _ _ _ _ _ _ _)
   | (with_reducible exact spec_l20Name.mono _ _ _ _)
   | (with_reducible exact spec_l20Rd_odd.mono _ _ _ _)
   | (with_reducible exact spec_l20Rd_pick.mono _ _ _ _)
   | (with_reducible exact LeO.refl _)
   | (with_reducible exact LeO.none _)
   | (with_reducible refine LeO.ite ?_ ?_)
   | (with_reducible refine LeO.bind ?_ (fun _ => ?_))
   | exact ih0 _ _ _ _ _ _ _
   | exact spec_l20Name.mono _ _ _ _
   | exact spec_l20Rd_odd.mono _ _ _ _
   | exact spec_l20Rd_pick.mono _ _ _ _
   | exact LeO.none _
   | refine LeO.ite ?_ ?_
   | refine LeO.bind ?_ (fun _ => ?_)
theorem spec_l20Names.mono : ∀ a0 a1 a2 k, LeO (spec_l20Names.f k a0 a1 a2) (spec_l20Names.f (k + 1) a0 a1 a2) := by
 intro a0 a1 a2 k
 have ih0 := spec_l20Names.mono_l k
 unfold spec_l20Names.f
 repeat' first
   | (with_reducible exact ih0 _ _ _ _ _ _ _)
   | (with_reducible exact spec_l20Name.mono _ _ _ _)
   | (with_reducible exact spec_l20Rd_odd.mono _ _ _ _)
   | (with_reducible exact spec_l20Rd_pick.mono _ _ _ _)
   | (with_reducible exact LeO.refl _)
   | (with_reducible exact LeO.none _)
   | (with_reducible refine LeO.ite ?_ ?_)
   | (with_reducible refine LeO.bind ?_ (fun _ => ?_))
   | exact ih0 _ _ _ _ _ _ _
   | exact spec_l20Name.mono _ _ _ _
   | exact spec_l20Rd_odd.mono _ _ _ _
   | exact spec_l20Rd_pick.mono _ _ _ _
   | exact LeO.none _
   | refine LeO.ite ?_ ?_
   | refine LeO.bind ?_ (fun _ => ?_)
set_option maxHeartbeats 8000000 in
set_option maxRecDepth 100000 in
theorem spec_l20Names.calls (k : Nat) (g : Nat) (s0_0 : List Int) (s0_1 : Int) (a1 : Int) (r1 : List (S26)) (r2 : Int) (w0 w : World) (hI : IsS96 w0 w g s0_0 s0_1) (hB : Below w0.heap.size w0 w) (h : spec_l20Names.f k s0_0 s0_1 a1 = some (r1, r2)) :
  Calls Try.prog 62 #[.pointer (some ⟨g, 0, none⟩), .int .i64 a1] w fun e w' => ∃ v0_ : Value, e = .returned (v0_) ∧ Kd.R k26 26 w' w.heap.size (fun _ => True) v0_ r1 ∧ IsS96 w0 w' g s0_0 r2 ∧ Below w0.heap.size w0 w' ∧ KeepBut w w' g none := by
 have hu26 := Try.underlying26
 have HI0 := Aside0.mk hI
 have HK := Aside0.mk (KeepBut.refl w g none)
 have HL := Aside0.mk hB.size
 clear hI
 have HW0 := Aside0.mk hB.size
 have HB := Aside0.mk hB
 clear hB
 have H : ((some (([(⟨#[97]⟩ : ByteArray), (⟨#[98]⟩ : ByteArray), (⟨#[99]⟩ : ByteArray), (⟨#[100, 100]⟩ : ByteArray), (⟨#[101, 101]⟩ : ByteArray), (⟨#[102]⟩ : ByteArray), (⟨#[103, 103]⟩ : ByteArray)] : List ByteArray) : List ByteArray)).bind fun y196 => (spec_l20Names.l0 k a1 (([] : List (S26))) y196 (y196.length : Int) 0 s0_0 s0_1)) = some (r1, r2) := h
 clear h
 obtain ⟨y193, hy193⟩ : ∃ y_ : List (S26), y_ = (([] : List (S26))) := ⟨_, rfl⟩
 replace H : ((some (([(⟨#[97]⟩ : ByteArray), (⟨#[98]⟩ : ByteArray), (⟨#[99]⟩ : ByteArray), (⟨#[100, 100]⟩ : ByteArray), (⟨#[101, 101]⟩ : ByteArray), (⟨#[102]⟩ : ByteArray), (⟨#[103, 103]⟩ : ByteArray)] : List ByteArray) : List ByteArray)).bind fun y196 => (spec_l20Names.l0 k a1 y193 y196 (y196.length : Int) 0 s0_0 s0_1)) = some (r1, r2) := by first | (rw [hy193]; with_reducible exact H) | (have H2_ := (Option.bind_some _ _).symm.trans H; rw [hy193]; with_reducible exact H2_) | (have H2_ := (Option.bind_some _ _).symm.trans H; with_reducible exact H2_) | with_reducible exact H | (rw [hy193]; exact H) | exact H
 have Ny193 := Aside0.mk hy193
 clear hy193
 obtain ⟨y196, hy196⟩ : ∃ y_ : List ByteArray, y_ = (([(⟨#[97]⟩ : ByteArray), (⟨#[98]⟩ : ByteArray), (⟨#[99]⟩ : ByteArray), (⟨#[100, 100]⟩ : ByteArray), (⟨#[101, 101]⟩ : ByteArray), (⟨#[102]⟩ : ByteArray), (⟨#[103, 103]⟩ : ByteArray)] : List ByteArray)) := ⟨_, rfl⟩
 replace H : (spec_l20Names.l0 k a1 y193 y196 (y196.length : Int) 0 s0_0 s0_1) = some (r1, r2) := by first | (rw [hy196]; with_reducible exact H) | (have H2_ := (Option.bind_some _ _).symm.trans H; rw [hy196]; with_reducible exact H2_) | (have H2_ := (Option.bind_some _ _).symm.trans H; with_reducible exact H2_) | with_reducible exact H | (rw [hy196]; exact H) | exact H
 have Ny196 := Aside0.mk hy196
 clear hy196
 have H' := Aside0.mk H
 clear H
 go_enter Try.func62, Try.ntmps62
 go_wp2_with (first | ((with_reducible refine gate_dst (N := 9) rfl ?_); refine Kd.R_lit k26 _ 26 ?hg (N := 9) ?hd (xs := ([] : List (S26))) (inner := []) (ok := fun _ => True) (okp := fun _ => True) ?hr ?hp (fun _ hk => hk) trivial (Below.refl _ _) (Nat.le_refl _) (z_10) ?_; (case hd => rfl); (case hg => rfl); (case hr => exact z_7); (case hp => exact z_44); intro v194 w3 ho4 hb hg_ hnew_; clear hg_ hnew_; (first | rw [← Ny193.out] at ho4 | (simp only [Int.reduceToNat] at ho4; rw [← Ny193.out] at ho4)); have n0_ := Aside0.mk (Kd.R_lower ho4 (keep_size (w := w) (g := g) (row := none) (z_32))); have n1_ := Aside0.mk (IsS96.below (z_31) hb); have n2_ := Aside0.mk (KeepBut.trans (z_32) (KeepBut.of_below hb g none) (.inl rfl)); have n3_ := Aside0.mk (below_step (z_33) hb); clear HI0; clear HK; clear HB; have HO195 := n0_; have HI0 := n1_; have HK := n2_; have HB := n3_; clear n0_ n1_ n2_ n3_; clear hb ho4) | ((with_reducible refine gate_dst (N := 10) rfl ?_); refine Kd.R_lit Kd.string _ 9 ?hg (N := 10) ?hd (xs := ([(⟨#[97]⟩ : ByteArray), (⟨#[98]⟩ : ByteArray), (⟨#[99]⟩ : ByteArray), (⟨#[100, 100]⟩ : ByteArray), (⟨#[101, 101]⟩ : ByteArray), (⟨#[102]⟩ : ByteArray), (⟨#[103, 103]⟩ : ByteArray)] : List ByteArray)) (inner := [.string (⟨#[97]⟩ : ByteArray), .string (⟨#[98]⟩ : ByteArray), .string (⟨#[99]⟩ : ByteArray), .string (⟨#[100, 100]⟩ : ByteArray), .string (⟨#[101, 101]⟩ : ByteArray), .string (⟨#[102]⟩ : ByteArray), .string (⟨#[103, 103]⟩ : ByteArray)]) (ok := fun _ => True) (okp := fun _ => True) ?hr ?hp (fun _ hk => hk) trivial (Below.refl _ _) (Nat.le_refl _) (z_10) ?_; (case hd => rfl); (case hg => rfl); (case hr => exact z_7); (case hp => exact (Reps.one (show Kd.M Kd.string _ _ _ (⟨#[97]⟩ : ByteArray) [.string (⟨#[97]⟩ : ByteArray)] from rfl) (Reps.one (show Kd.M Kd.string _ _ _ (⟨#[98]⟩ : ByteArray) [.string (⟨#[98]⟩ : ByteArray)] from rfl) (Reps.one (show Kd.M Kd.string _ _ _ (⟨#[99]⟩ : ByteArray) [.string (⟨#[99]⟩ : ByteArray)] from rfl) (Reps.one (show Kd.M Kd.string _ _ _ (⟨#[100, 100]⟩ : ByteArray) [.string (⟨#[100, 100]⟩ : ByteArray)] from rfl) (Reps.one (show Kd.M Kd.string _ _ _ (⟨#[101, 101]⟩ : ByteArray) [.string (⟨#[101, 101]⟩ : ByteArray)] from rfl) (Reps.one (show Kd.M Kd.string _ _ _ (⟨#[102]⟩ : ByteArray) [.string (⟨#[102]⟩ : ByteArray)] from rfl) (Reps.one (show Kd.M Kd.string _ _ _ (⟨#[103, 103]⟩ : ByteArray) [.string (⟨#[103, 103]⟩ : ByteArray)] from rfl) (Reps.none _ _))))))))); intro v197 w5 ho6 hb hg_ hnew_; clear hg_ hnew_; (first | rw [← Ny196.out] at ho6 | (simp only [Int.reduceToNat] at ho6; rw [← Ny196.out] at ho6)); have n0_ := Aside0.mk (Kd.R_below (z_45) hb); have n1_ := Aside0.mk (Kd.R_lower ho6 (keep_size (w := w) (g := g) (row := none) (z_32))); have n2_ := Aside0.mk (IsS96.below (z_31) hb); have n3_ := Aside0.mk (KeepBut.trans (z_32) (KeepBut.of_below hb g none) (.inl rfl)); have n4_ := Aside0.mk (below_step (z_33) hb); clear HO195; clear HI0; clear HK; clear HB; have HO195 := n0_; have HO198 := n1_; have HI0 := n2_; have HK := n3_; have HB := n4_; clear n0_ n1_ n2_ n3_ n4_; clear hb ho6; obtain ⟨Ao7, co7, eo7⟩ := Kd.R_slice HO198.out; subst eo7))
 go_loopg [5, 12] k (fun kq v5 v12 w' => ∃ (x5_1 : List (S26)) (x12_1 : Int) (x1001_1 : Int), v12 = .int .i64 x12_1 ∧ Aside0 (spec_l20Names.l0 kq a1 x5_1 y196 (y196.length : Int) x12_1 s0_0 x1001_1 = some (r1, r2)) ∧ Aside0 (kq ≤ k) ∧ Aside0 (Kd.R k26 26 w' w.heap.size (fun _ => True) v5 x5_1) ∧ Aside0 (Kd.R Kd.string 9 w' w.heap.size (fun _ => True) (.slice Ao7 y196.length co7) y196) ∧ Aside0 (IsS96 w0 w' g s0_0 x1001_1) ∧ Aside0 (KeepBut w w' g none) ∧ Aside0 (Below w0.heap.size w0 w'))
 case atStart => exact ⟨(y193), (0), (s0_1), (z_1), H', ⟨Nat.le_refl _⟩, ⟨z_45⟩, ⟨by (with_reducible repeat (first | apply Kd.R_alloc | apply Kd.R_drewN | apply Kd.R_drew)); exact HO198.out⟩, ⟨z_31⟩, ⟨z_32⟩, ⟨z_33⟩⟩
 case round =>
  clear H'
  try clear p2
  try clear c6
  obtain ⟨x5_1, x12_1, x1001_1, rfl, HA, HK1, HO_5, HO_10, HI0, HK, HB⟩ := hrel
  cases gk with
  | zero => exact absurd HA.out (by simp [spec_l20Names.l0])
  | succ k1 =>
   have H := HA.out
   clear HA
   simp only [spec_l20Names.l0] at H
   by_cases c8 : x12_1 < (y196.length : Int)
   ·rw [if_pos c8] at H
    have c8b0 : decide (x12_1 < (y196.length : Int)) = true := decide_eq_true c8
    clear c8
    by_cases c9 : 0 ≤ x12_1
    ·rw [if_pos c9] at H
     have c9b0 : decide (0 ≤ x12_1) = true := decide_eq_true c9
     clear c9
     by_cases c10 : x12_1 < (y196.length : Int)
     ·rw [if_pos c10] at H
      have c10b0 : decide (x12_1 < (y196.length : Int)) = true := decide_eq_true c10
      clear c10
      replace H := Option.bind_eq_some_iff.mp H
      obtain ⟨⟨t200, t201⟩, A110, H⟩ := H
      replace H : (if t200 > 0 then ((spec_l20Name.f k1 s0_0 t201 0).bind fun bt202 => (if x5_1.length < 2513169434916 then (spec_l20Names.l0 k1 a1 (x5_1 ++ [(⟨rdOf ByteArray.empty y196 x12_1, bt202.2.1, bt202.2.2.1, bt202.2.2.2.1, bt202.2.2.2.2.1⟩ : S26)]) y196 (y196.length : Int) (wrap64 (x12_1 + 1)) s0_0 bt202.2.2.2.2.2) else (none))) else (spec_l20Names.l0 k1 a1 x5_1 y196 (y196.length : Int) (wrap64 (x12_1 + 1)) s0_0 t201)) = some (r1, r2) := H
      have A11 := Aside0.mk A110
      clear A110
      by_cases c12 : t200 > 0
      ·rw [if_pos c12] at H
       have c12b0 : decide (0 < t200) = true := decide_eq_true c12
       clear c12
       replace H := Option.bind_eq_some_iff.mp H
       obtain ⟨⟨t202, t203, t204, t205, t206, t207⟩, A130, H⟩ := H
       replace H : (if x5_1.length < 2513169434916 then (spec_l20Names.l0 k1 a1 (x5_1 ++ [(⟨rdOf ByteArray.empty y196 x12_1, t203, t204, t205, t206⟩ : S26)]) y196 (y196.length : Int) (wrap64 (x12_1 + 1)) s0_0 t207) else (none)) = some (r1, r2) := H
       have A13 := Aside0.mk A130
       clear A130
       by_cases c14 : x5_1.length < 2513169434916
       ·rw [if_pos c14] at H
        have LMc14 := Aside0.mk c14
        clear c14
        obtain ⟨y209, hy209⟩ : ∃ y_ : List (S26), y_ = (x5_1 ++ [(⟨rdOf ByteArray.empty y196 x12_1, t203, t204, t205, t206⟩ : S26)]) := ⟨_, rfl⟩
        replace H : (spec_l20Names.l0 k1 a1 y209 y196 (y196.length : Int) (wrap64 (x12_1 + 1)) s0_0 t207) = some (r1, r2) := by first | (rw [hy209]; with_reducible exact H) | (have H2_ := (Option.bind_some _ _).symm.trans H; rw [hy209]; with_reducible exact H2_) | (have H2_ := (Option.bind_some _ _).symm.trans H; with_reducible exact H2_) | with_reducible exact H | (rw [hy209]; exact H) | exact H
        have Ny209 := Aside0.mk hy209
        clear hy209
        have H' := Aside0.mk H
        clear H
        have p199 : 0 ≤ (x12_1 : Int) := of_decide_eq_true (z_5)
        have q199 : x12_1 < (y196.length : Int) := of_decide_eq_true (z_5)
        obtain ⟨ad199, e199, hx199_0⟩ := Kd.at_string (Kd.R_reads' HO_10.out).2.2 x12_1 p199 q199
        cases e199
        replace p199 := eq_true p199
        replace q199 := eq_true q199
        generalize htx_ : rdOf ByteArray.empty y196 x12_1 = tx_ at hx199_0 Ny209
        clear htx_
        go_upto_region 8 with (first | ((with_reducible refine gate_callee (f := 69) rfl ?_); refine goesL_ (some 17) rfl rfl Try.func69 (z_0) rfl #[.pointer (some ⟨g, 0, none⟩), .int .i64 3] rfl (z_12) ?_; (with_reducible refine (spec_l20Rd_pick.calls k1 g s0_0 x1001_1 3 t200 t201 w0 _ ?side1 ?side2 A11.out).mono ?_); (case side1 => exact z_31); (case side2 => exact z_33); rintro e w15 ⟨rfl, hi, hb, hk⟩; refine ⟨_, rfl, ?_⟩; have n0_ := Aside0.mk (Kd.R_mono (Kd.R_keep (IsS96.apart (show IsS96 w0 _ g s0_0 x1001_1 from z_31) (z_9) (z_3)) hk (fun _ h => h.2)) (fun _ h => h.1)); have n1_ := Aside0.mk (Kd.R_mono (Kd.R_keep (IsS96.apart (show IsS96 w0 _ g s0_0 x1001_1 from z_31) (z_46) (z_3)) hk (fun _ h => h.2)) (fun _ h => h.1)); have n2_ := Aside0.mk (KeepBut.trans (z_32) hk (.inl rfl)); have n3_ := Aside0.mk (hb); have n4_ := Aside0.mk (hi); clear HO_5; clear HO_10; clear HK; clear HB; clear HI0; have HO_5 := n0_; have HO_10 := n1_; have HK := n2_; have HB := n3_; have HI0 := n4_; clear n0_ n1_ n2_ n3_ n4_; (try clear hb); (try clear hb2); (try clear hk); (try clear hi)) | ((with_reducible refine gate_callee (f := 59) rfl ?_); refine goesL_ (some 20) rfl rfl Try.func59 (z_0) rfl #[.pointer (some ⟨g, 0, none⟩), .int .i64 0] rfl (z_12) ?_; (with_reducible refine (spec_l20Name.calls k1 g s0_0 t201 0 t202 t203 t204 t205 t206 t207 w0 _ ?side1 ?side2 A13.out).mono ?_); (case side1 => exact z_31); (case side2 => exact z_33); rintro e w16 ⟨rfl, hi, hb, hk⟩; refine ⟨_, rfl, ?_⟩; have n0_ := Aside0.mk (Kd.R_mono (Kd.R_keep (IsS96.apart (show IsS96 w0 _ g s0_0 t201 from z_31) (z_9) (z_3)) hk (fun _ h => h.2)) (fun _ h => h.1)); have n1_ := Aside0.mk (Kd.R_mono (Kd.R_keep (IsS96.apart (show IsS96 w0 _ g s0_0 t201 from z_31) (z_46) (z_3)) hk (fun _ h => h.2)) (fun _ h => h.1)); have n2_ := Aside0.mk (KeepBut.trans (z_32) hk (.inl rfl)); have n3_ := Aside0.mk (hb); have n4_ := Aside0.mk (hi); clear HO_5; clear HO_10; clear HK; clear HB; clear HI0; have HO_5 := n0_; have HO_10 := n1_; have HK := n2_; have HB := n3_; have HI0 := n4_; clear n0_ n1_ n2_ n3_ n4_; (try clear hb); (try clear hb2); (try clear hk); (try clear hi)) | ((with_reducible refine gate_dst (N := 8) rfl ?_); refine box_event ?hg (N := 8) ?hd (cs := #[.string (⟨#[]⟩ : ByteArray), .int .i64 0, .int .i64 0, .string (⟨#[]⟩ : ByteArray), .int .i64 0]) (t := 26) ?hr ?_; (case hd => rfl); (case hg => rfl); (case hr => exact z_7); intro gb208 hg w17 hbox hb; have n0_ := Aside0.mk (Kd.R_below (Kd.R_elderB (z_9) gb208 (Nat.le_of_eq hg.symm)) hb); have n1_ := Aside0.mk (Kd.R_below (z_46) hb); have n2_ := Aside0.mk (IsS96.below (z_31) hb); have n3_ := Aside0.mk (KeepBut.trans (z_32) (KeepBut.of_below hb g none) (.inl rfl)); have n4_ := Aside0.mk (below_step (z_33) hb); have n5_ := Aside0.mk (hbox); have n6_ := Aside0.mk ((z_34 : w.heap.size ≤ gb208)); have n7_ := Aside0.mk ((Nat.le_trans HW0.out (z_34 : w.heap.size ≤ gb208) : w0.heap.size ≤ gb208)); have n8_ := Aside0.mk ((by rw [hg]; exact Nat.ne_of_lt (IsS96.lt (show IsS96 w0 _ g s0_0 t207 from z_31)) : g ≠ gb208)); have n9_ := Aside0.mk ((by rw [hg]; exact Nat.ne_of_gt (IsS96.lt (show IsS96 w0 _ g s0_0 t207 from z_31)) : gb208 ≠ g)); clear HO_5; clear HO_10; clear HI0; clear HK; clear HB; have HO_5 := n0_; have HO_10 := n1_; have HI0 := n2_; have HK := n3_; have HB := n4_; have BK208 := n5_; have GW208 := n6_; have GE208 := n7_; have NB0_208 := n8_; have NB208_0 := n9_; clear n0_ n1_ n2_ n3_ n4_ n5_ n6_ n7_ n8_ n9_; clear hb hbox hg; have hnb18 := NB208_0.out; have hnc18 := NB0_208.out; have hcz19_0 : w17.cell? ⟨gb208, 0, none⟩ = some (.string (⟨#[]⟩ : ByteArray)) := (blk_cell BK208.out 0).trans rfl; have hcz19_1 : w17.cell? ⟨gb208, 1, none⟩ = some (.int .i64 0) := (blk_cell BK208.out 1).trans rfl; have hcz19_2 : w17.cell? ⟨gb208, 2, none⟩ = some (.int .i64 0) := (blk_cell BK208.out 2).trans rfl; have hcz19_3 : w17.cell? ⟨gb208, 3, none⟩ = some (.string (⟨#[]⟩ : ByteArray)) := (blk_cell BK208.out 3).trans rfl; have hcz19_4 : w17.cell? ⟨gb208, 4, none⟩ = some (.int .i64 0) := (blk_cell BK208.out 4).trans rfl; have hfz19_0 := blk_frozen BK208.out 0; have hfz19_1 := blk_frozen BK208.out 1; have hfz19_2 := blk_frozen BK208.out 2; have hfz19_3 := blk_frozen BK208.out 3; have hfz19_4 := blk_frozen BK208.out 4))
        obtain ⟨w18, hw18_⟩ : ∃ w_ : World, w_ = ((((((w17.setCell ⟨gb208, 0, none⟩ (.string t202)).setCell ⟨gb208, 1, none⟩ (.int .i64 t203)).setCell ⟨gb208, 2, none⟩ (.int .i64 t204)).setCell ⟨gb208, 3, none⟩ (.string t205)).setCell ⟨gb208, 4, none⟩ (.int .i64 t206)).setCell ⟨gb208, 0, none⟩ (.string (tx_))) := ⟨_, rfl⟩
        have nb_ := Aside0.mk (show w18.heap[gb208]? = some (.cells #[.string (tx_), .int .i64 t203, .int .i64 t204, .string t205, .int .i64 t206] 26 (0, 0)) by rw [hw18_]; (with_reducible repeat (first | refine blk_drewN ?_ _ | refine blk_drew ?_ | refine blk_alloc ?_ _)); refine blk_put (cs := #[.string t202, .int .i64 t203, .int .i64 t204, .string t205, .int .i64 t206]) ?_ 0 _ rfl; (with_reducible repeat (first | refine blk_drewN ?_ _ | refine blk_drew ?_ | refine blk_alloc ?_ _)); refine blk_put (cs := #[.string t202, .int .i64 t203, .int .i64 t204, .string t205, .int .i64 0]) ?_ 4 _ rfl; (with_reducible repeat (first | refine blk_drewN ?_ _ | refine blk_drew ?_ | refine blk_alloc ?_ _)); refine blk_put (cs := #[.string t202, .int .i64 t203, .int .i64 t204, .string (⟨#[]⟩ : ByteArray), .int .i64 0]) ?_ 3 _ rfl; (with_reducible repeat (first | refine blk_drewN ?_ _ | refine blk_drew ?_ | refine blk_alloc ?_ _)); refine blk_put (cs := #[.string t202, .int .i64 t203, .int .i64 0, .string (⟨#[]⟩ : ByteArray), .int .i64 0]) ?_ 2 _ rfl; (with_reducible repeat (first | refine blk_drewN ?_ _ | refine blk_drew ?_ | refine blk_alloc ?_ _)); refine blk_put (cs := #[.string t202, .int .i64 0, .int .i64 0, .string (⟨#[]⟩ : ByteArray), .int .i64 0]) ?_ 1 _ rfl; (with_reducible repeat (first | refine blk_drewN ?_ _ | refine blk_drew ?_ | refine blk_alloc ?_ _)); refine blk_put (cs := #[.string (⟨#[]⟩ : ByteArray), .int .i64 0, .int .i64 0, .string (⟨#[]⟩ : ByteArray), .int .i64 0]) ?_ 0 _ rfl; (with_reducible repeat (first | refine blk_drewN ?_ _ | refine blk_drew ?_ | refine blk_alloc ?_ _)); exact BK208.out)
        have n5_ := Aside0.mk (show Kd.R k26 26 w18 w.heap.size (fun k_ => k_ ≠ gb208) u5 x5_1 by rw [hw18_]; exact Kd.R_mono (Kd.R_far (p := ⟨gb208, 0, none⟩) (Kd.R_far (p := ⟨gb208, 4, none⟩) (Kd.R_far (p := ⟨gb208, 3, none⟩) (Kd.R_far (p := ⟨gb208, 2, none⟩) (Kd.R_far (p := ⟨gb208, 1, none⟩) (Kd.R_far (p := ⟨gb208, 0, none⟩) (Kd.R_mono HO_5.out (fun k_ hk => (⟨hk, hk.2⟩ : _ ∧ k_ ≠ gb208))) (fun _ hk => hk.2) (.string t202)) (fun _ hk => hk.2) (.int .i64 t203)) (fun _ hk => hk.2) (.int .i64 t204)) (fun _ hk => hk.2) (.string t205)) (fun _ hk => hk.2) (.int .i64 t206)) (fun _ hk => hk.2) (.string (tx_))) (fun _ hk => hk.1.2))
        have n10_ := Aside0.mk (show Kd.R Kd.string 9 w18 w.heap.size (fun _ => True) _ y196 by rw [hw18_]; exact (Kd.R_mono (Kd.R_far (p := ⟨gb208, 0, none⟩) (Kd.R_far (p := ⟨gb208, 4, none⟩) (Kd.R_far (p := ⟨gb208, 3, none⟩) (Kd.R_far (p := ⟨gb208, 2, none⟩) (Kd.R_far (p := ⟨gb208, 1, none⟩) (Kd.R_far (p := ⟨gb208, 0, none⟩) (Kd.R_types HO_10.out BK208.out (z_3)) (fun _ hk => hk.2) (.string t202)) (fun _ hk => hk.2) (.int .i64 t203)) (fun _ hk => hk.2) (.int .i64 t204)) (fun _ hk => hk.2) (.string t205)) (fun _ hk => hk.2) (.int .i64 t206)) (fun _ hk => hk.2) (.string (tx_))) (fun _ h_ => h_.1)))
        have ni_ := Aside0.mk (show IsS96 w0 w18 g s0_0 t207 by rw [hw18_]; repeat (first | (with_reducible first | exact HI0.out | apply IsS96.alloc | apply IsS96.drewN | apply IsS96.drew | apply IsS96.set_1 | refine IsS96.far ?_ NB0_208.out _) | exact HI0.out))
        have nk_ := Aside0.mk (show KeepBut w w18 g none by rw [hw18_]; repeat (first | (with_reducible first | exact HK.out | apply KeepBut.set_ | apply keep_drewN | apply keep_drew | apply keep_alloc | refine keep_far ?_ GW208.out _) | exact HK.out))
        have nw_ := Aside0.mk (show Below w0.heap.size w0 w18 by rw [hw18_]; repeat (first | (with_reducible first | exact HB.out | apply below_alloc | apply pw_below_drewN | apply below_drew1 | refine below_set ?_ (IsS96.ge HI0.out) | refine below_set ?_ GE208.out) | exact HB.out))
        rw [← hw18_]
        clear hw18_ HO_5 HO_10 HI0 HK HB BK208
        clear hcz19_0
        clear hcz19_1
        clear hcz19_2
        clear hcz19_3
        clear hcz19_4
        clear hfz19_0
        clear hfz19_1
        clear hfz19_2
        clear hfz19_3
        clear hfz19_4
        have BK208 := nb_
        have HO_5 := n5_
        have HO_10 := n10_
        have HI0 := ni_
        have HK := nk_
        have HB := nw_
        clear nb_ n5_ n10_ ni_ nk_ nw_
        have hcz_0 : w18.cell? ⟨gb208, 0, none⟩ = some (.string (tx_)) := (blk_cell BK208.out 0).trans rfl
        have hfz_0 := blk_frozen BK208.out 0
        have hcz_1 : w18.cell? ⟨gb208, 1, none⟩ = some (.int .i64 t203) := (blk_cell BK208.out 1).trans rfl
        have hfz_1 := blk_frozen BK208.out 1
        have hcz_2 : w18.cell? ⟨gb208, 2, none⟩ = some (.int .i64 t204) := (blk_cell BK208.out 2).trans rfl
        have hfz_2 := blk_frozen BK208.out 2
        have hcz_3 : w18.cell? ⟨gb208, 3, none⟩ = some (.string t205) := (blk_cell BK208.out 3).trans rfl
        have hfz_3 := blk_frozen BK208.out 3
        have hcz_4 : w18.cell? ⟨gb208, 4, none⟩ = some (.int .i64 t206) := (blk_cell BK208.out 4).trans rfl
        have hfz_4 := blk_frozen BK208.out 4
        go_wp2_with (first | ((with_reducible refine gate_builtin (b := .append) (xs := #[.tmp 23, .tmp 25]) rfl ?_); at_builtin; refine Kd.R_append k26 w.heap.size rfl (.tmp 23) (.tmp 25) 36 26 (.agg #[(.string ⟨#[]⟩), (.int .i64 0), (.int .i64 0), (.string ⟨#[]⟩), (.int .i64 0)]) 56 rfl Try.underlying36 info26 rfl (z_3) (z_4) u5 x5_1 (⟨tx_, t203, t204, t205, t206⟩ : S26) [.string (tx_), .int .i64 t203, .int .i64 t204, .string t205, .int .i64 t206] (fun k_ => k_ ≠ gb208) (fun _ => False) rfl (z_7) ?aP (fun _ hk => hk.elim) ?aF ?aO (Below.refl _ _) ?aS ?aL ?_; (case aP => exact k26_mkM _ _ _ (⟨tx_, t203, t204, t205, t206⟩ : S26)); (case aF => exact (fun k_ hk => Kd.freshB (g := gb208) (o := .cells #[.string (tx_), .int .i64 t203, .int .i64 t204, .string t205, .int .i64 t206] 26 (0, 0)) (z_47) k_ hk)); (case aO => exact z_48); (case aS => exact (keep_size (w := w) (g := g) (row := none) (z_49))); (case aL => have := LMc14.out; omega); intro v210 w20 ho hb hg hat; rw [← Ny209.out] at ho; have n0_ := Aside0.mk (Kd.R_over' (z_46) (Kd.R_typed (z_9)) (z_3) hg); have n1_ := Aside0.mk (IsS96.grown (z_50) hg (IsS96.own_ne HI0.out HO_5.out (z_3))); have n2_ := Aside0.mk (blk_grown (g := gb208) (o := .cells #[.string (tx_), .int .i64 t203, .int .i64 t204, .string t205, .int .i64 t206] 26 (0, 0)) (z_47) hg (Kd.R_away HO_5.out (fun _ hk => hk))); have n3_ := Aside0.mk (below_weaken (z_51) HL.out hb); have n4_ := Aside0.mk (KeepBut.trans (z_49) (KeepBut.of_grown hg g) (Kd.R_base2 HO_5.out)); have n5_ := Aside0.mk (ho); clear HO_10; clear HI0; clear BK208; clear HB; clear HK; clear HO_5; have HO_10 := n0_; have HI0 := n1_; have BK208 := n2_; have HB := n3_; have HK := n4_; have HO211 := n5_; clear n0_ n1_ n2_ n3_ n4_ n5_; clear ho hb hg hat))
        go_roundg k1
        case measure => have := HK1.out; omega
        case rel => exact ⟨(y209), (wrap64 (x12_1 + 1)), (t207), (z_1), H', ⟨z_8⟩, ⟨by (with_reducible repeat (first | apply Kd.R_alloc | apply Kd.R_drewN | apply Kd.R_drew)); exact Kd.R_mono HO211.out (fun _ hk => trivial)⟩, ⟨z_46⟩, ⟨z_50⟩, ⟨z_49⟩, ⟨z_51⟩⟩
       ·rw [if_neg c14] at H
        exact absurd H (z_10)
      ·rw [if_neg c12] at H
       have c12b0 : decide (0 < t200) = false := decide_eq_false c12
       clear c12
       have H' := Aside0.mk H
       clear H
       have p199 : 0 ≤ (x12_1 : Int) := of_decide_eq_true (z_5)
       have q199 : x12_1 < (y196.length : Int) := of_decide_eq_true (z_5)
       obtain ⟨ad199, e199, hx199_0⟩ := Kd.at_string (Kd.R_reads' HO_10.out).2.2 x12_1 p199 q199
       cases e199
       replace p199 := eq_true p199
       replace q199 := eq_true q199
       go_wp2_with (first | ((with_reducible refine gate_callee (f := 69) rfl ?_); refine goesL_ (some 17) rfl rfl Try.func69 (z_0) rfl #[.pointer (some ⟨g, 0, none⟩), .int .i64 3] rfl (z_12) ?_; (with_reducible refine (spec_l20Rd_pick.calls k1 g s0_0 x1001_1 3 t200 t201 w0 _ ?side1 ?side2 A11.out).mono ?_); (case side1 => exact z_31); (case side2 => exact z_33); rintro e w21 ⟨rfl, hi, hb, hk⟩; refine ⟨_, rfl, ?_⟩; have n0_ := Aside0.mk (Kd.R_mono (Kd.R_keep (IsS96.apart (show IsS96 w0 _ g s0_0 x1001_1 from z_31) (z_9) (z_3)) hk (fun _ h => h.2)) (fun _ h => h.1)); have n1_ := Aside0.mk (Kd.R_mono (Kd.R_keep (IsS96.apart (show IsS96 w0 _ g s0_0 x1001_1 from z_31) (z_46) (z_3)) hk (fun _ h => h.2)) (fun _ h => h.1)); have n2_ := Aside0.mk (KeepBut.trans (z_32) hk (.inl rfl)); have n3_ := Aside0.mk (hb); have n4_ := Aside0.mk (hi); clear HO_5; clear HO_10; clear HK; clear HB; clear HI0; have HO_5 := n0_; have HO_10 := n1_; have HK := n2_; have HB := n3_; have HI0 := n4_; clear n0_ n1_ n2_ n3_ n4_; (try clear hb); (try clear hb2); (try clear hk); (try clear hi)))
       go_roundg k1
       case measure => have := HK1.out; omega
       case rel => exact ⟨(x5_1), (wrap64 (x12_1 + 1)), (t201), (z_1), H', ⟨z_8⟩, ⟨z_9⟩, ⟨z_46⟩, ⟨z_31⟩, ⟨z_32⟩, ⟨z_33⟩⟩
     ·rw [if_neg c10] at H
      exact absurd H (z_10)
    ·rw [if_neg c9] at H
     exact absurd H (z_10)
   ·rw [if_neg c8] at H
    have c8b0 : decide (x12_1 < (y196.length : Int)) = false := decide_eq_false c8
    clear c8
    replace H := Option.bind_eq_some_iff.mp H
    obtain ⟨⟨t212, t213⟩, A220, H⟩ := H
    replace H : (if t212 = true then ((spec_l20Name.f k1 s0_0 t213 1).bind fun bt214 => (if x5_1.length < 2513169434916 then (some ((x5_1 ++ [(⟨bt214.1, bt214.2.1, bt214.2.2.1, bt214.2.2.2.1, bt214.2.2.2.2.1⟩ : S26)]), bt214.2.2.2.2.2)) else (none))) else (some (x5_1, t213))) = some (r1, r2) := H
    have A22 := Aside0.mk A220
    clear A220
    by_cases c23 : t212 = true
    ·subst c23
     rw [if_pos rfl] at H
     replace H := Option.bind_eq_some_iff.mp H
     obtain ⟨⟨t214, t215, t216, t217, t218, t219⟩, A240, H⟩ := H
     replace H : (if x5_1.length < 2513169434916 then (some ((x5_1 ++ [(⟨t214, t215, t216, t217, t218⟩ : S26)]), t219)) else (none)) = some (r1, r2) := H
     have A24 := Aside0.mk A240
     clear A240
     by_cases c25 : x5_1.length < 2513169434916
     ·rw [if_pos c25] at H
      have LMc25 := Aside0.mk c25
      clear c25
      obtain ⟨y220, hy220⟩ : ∃ y_ : List (S26), y_ = (x5_1 ++ [(⟨t214, t215, t216, t217, t218⟩ : S26)]) := ⟨_, rfl⟩
      replace H : (some (y220, t219)) = some (r1, r2) := by first | (rw [hy220]; with_reducible exact H) | (have H2_ := (Option.bind_some _ _).symm.trans H; rw [hy220]; with_reducible exact H2_) | (have H2_ := (Option.bind_some _ _).symm.trans H; with_reducible exact H2_) | with_reducible exact H | (rw [hy220]; exact H) | exact H
      have Ny220 := Aside0.mk hy220
      clear hy220
      simp only [Option.some.injEq, Prod.mk.injEq] at H
      obtain ⟨rfl, rfl⟩ := H
      go_wp2_with (first | ((with_reducible refine gate_callee (f := 78) rfl ?_); refine goesL_ (some 30) rfl rfl Try.func78 (z_0) rfl #[.pointer (some ⟨g, 0, none⟩), .int .i64 a1] rfl (z_12) ?_; (with_reducible refine (spec_l20Rd_odd.calls k1 g s0_0 x1001_1 a1 true t213 w0 _ ?side1 ?side2 A22.out).mono ?_); (case side1 => exact z_31); (case side2 => exact z_33); rintro e w26 ⟨rfl, hi, hb, hk⟩; refine ⟨_, rfl, ?_⟩; have n0_ := Aside0.mk (Kd.R_mono (Kd.R_keep (IsS96.apart (show IsS96 w0 _ g s0_0 x1001_1 from z_31) (z_9) (z_3)) hk (fun _ h => h.2)) (fun _ h => h.1)); have n1_ := Aside0.mk (Kd.R_mono (Kd.R_keep (IsS96.apart (show IsS96 w0 _ g s0_0 x1001_1 from z_31) (z_46) (z_3)) hk (fun _ h => h.2)) (fun _ h => h.1)); have n2_ := Aside0.mk (KeepBut.trans (z_32) hk (.inl rfl)); have n3_ := Aside0.mk (hb); have n4_ := Aside0.mk (hi); clear HO_5; clear HO_10; clear HK; clear HB; clear HI0; have HO_5 := n0_; have HO_10 := n1_; have HK := n2_; have HB := n3_; have HI0 := n4_; clear n0_ n1_ n2_ n3_ n4_; (try clear hb); (try clear hb2); (try clear hk); (try clear hi)) | ((with_reducible refine gate_callee (f := 59) rfl ?_); refine goesL_ (some 33) rfl rfl Try.func59 (z_0) rfl #[.pointer (some ⟨g, 0, none⟩), .int .i64 1] rfl (z_12) ?_; (with_reducible refine (spec_l20Name.calls k1 g s0_0 t213 1 t214 t215 t216 t217 t218 t219 w0 _ ?side1 ?side2 A24.out).mono ?_); (case side1 => exact z_31); (case side2 => exact z_33); rintro e w27 ⟨rfl, hi, hb, hk⟩; refine ⟨_, rfl, ?_⟩; have n0_ := Aside0.mk (Kd.R_mono (Kd.R_keep (IsS96.apart (show IsS96 w0 _ g s0_0 t213 from z_31) (z_9) (z_3)) hk (fun _ h => h.2)) (fun _ h => h.1)); have n1_ := Aside0.mk (Kd.R_mono (Kd.R_keep (IsS96.apart (show IsS96 w0 _ g s0_0 t213 from z_31) (z_46) (z_3)) hk (fun _ h => h.2)) (fun _ h => h.1)); have n2_ := Aside0.mk (KeepBut.trans (z_32) hk (.inl rfl)); have n3_ := Aside0.mk (hb); have n4_ := Aside0.mk (hi); clear HO_5; clear HO_10; clear HK; clear HB; clear HI0; have HO_5 := n0_; have HO_10 := n1_; have HK := n2_; have HB := n3_; have HI0 := n4_; clear n0_ n1_ n2_ n3_ n4_; (try clear hb); (try clear hb2); (try clear hk); (try clear hi)) | ((with_reducible refine gate_builtin (b := .append) (xs := #[.tmp 31, .tmp 34]) rfl ?_); at_builtin; refine Kd.R_append k26 w.heap.size rfl (.tmp 31) (.tmp 34) 36 26 (.agg #[(.string ⟨#[]⟩), (.int .i64 0), (.int .i64 0), (.string ⟨#[]⟩), (.int .i64 0)]) 56 rfl Try.underlying36 info26 rfl (z_3) (z_4) u5 x5_1 (⟨t214, t215, t216, t217, t218⟩ : S26) [.string t214, .int .i64 t215, .int .i64 t216, .string t217, .int .i64 t218] (fun _ => True) (fun _ => False) rfl rfl ?aP (fun _ hk => hk.elim) ?aF ?aO (Below.refl _ _) ?aS ?aL ?_; (case aP => exact k26_mkM _ _ _ (⟨t214, t215, t216, t217, t218⟩ : S26)); (case aF => exact (fun _ _ => trivial)); (case aO => exact z_48); (case aS => exact z_52); (case aL => have := LMc25.out; omega); intro v221 w28 ho hb hg hat; rw [← Ny220.out] at ho; have n0_ := Aside0.mk (Kd.R_over' (z_46) (Kd.R_typed (z_9)) (z_3) hg); have n1_ := Aside0.mk (IsS96.grown (z_31) hg (IsS96.own_ne HI0.out HO_5.out (z_3))); have n2_ := Aside0.mk (below_weaken (z_33) HL.out hb); have n3_ := Aside0.mk (KeepBut.trans (z_32) (KeepBut.of_grown hg g) (Kd.R_base2 HO_5.out)); have n4_ := Aside0.mk (ho); clear HO_10; clear HI0; clear HB; clear HK; clear HO_5; have HO_10 := n0_; have HI0 := n1_; have HB := n2_; have HK := n3_; have HO222 := n4_; clear n0_ n1_ n2_ n3_ n4_; clear ho hb hg hat))
      go_ret
      exact ⟨_, z_11, by (with_reducible repeat (first | apply Kd.R_alloc | apply Kd.R_drewN | apply Kd.R_drew)); exact HO222.out, z_31, z_33, z_32⟩
     ·rw [if_neg c25] at H
      exact absurd H (z_10)
    ·replace c23 := Bool.eq_false_iff.mpr c23
     subst c23
     rw [if_neg (show ¬ (false = true) by decide)] at H
     simp only [Option.some.injEq, Prod.mk.injEq] at H
     obtain ⟨rfl, rfl⟩ := H
     go_wp2_with (first | ((with_reducible refine gate_callee (f := 78) rfl ?_); refine goesL_ (some 30) rfl rfl Try.func78 (z_0) rfl #[.pointer (some ⟨g, 0, none⟩), .int .i64 a1] rfl (z_12) ?_; (with_reducible refine (spec_l20Rd_odd.calls k1 g s0_0 x1001_1 a1 false t213 w0 _ ?side1 ?side2 A22.out).mono ?_); (case side1 => exact z_31); (case side2 => exact z_33); rintro e w29 ⟨rfl, hi, hb, hk⟩; refine ⟨_, rfl, ?_⟩; have n0_ := Aside0.mk (Kd.R_mono (Kd.R_keep (IsS96.apart (show IsS96 w0 _ g s0_0 x1001_1 from z_31) (z_9) (z_3)) hk (fun _ h => h.2)) (fun _ h => h.1)); have n1_ := Aside0.mk (Kd.R_mono (Kd.R_keep (IsS96.apart (show IsS96 w0 _ g s0_0 x1001_1 from z_31) (z_46) (z_3)) hk (fun _ h => h.2)) (fun _ h => h.1)); have n2_ := Aside0.mk (KeepBut.trans (z_32) hk (.inl rfl)); have n3_ := Aside0.mk (hb); have n4_ := Aside0.mk (hi); clear HO_5; clear HO_10; clear HK; clear HB; clear HI0; have HO_5 := n0_; have HO_10 := n1_; have HK := n2_; have HB := n3_; have HI0 := n4_; clear n0_ n1_ n2_ n3_ n4_; (try clear hb); (try clear hb2); (try clear hk); (try clear hi)))
     go_ret
     exact ⟨_, z_11, z_9, z_31, z_33, z_32⟩

end Go.Proofs.Ytmgnmgobibpjjaa.GFnKeptOk
