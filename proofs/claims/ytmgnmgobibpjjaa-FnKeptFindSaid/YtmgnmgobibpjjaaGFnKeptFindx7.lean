/- What the Go functions that FnKeptFind reaches come to, walked step by step; there is no condition beyond those each statement names. -/
import Derived.Test.YtmgnmgobibpjjaaGFnKeptFindx0
import Derived.Test.YtmgnmgobibpjjaaGFnKeptFindx6
namespace Go.Proofs.Ytmgnmgobibpjjaa.GFnKeptFind
open Go.RowKit Go.Proofs.YtmgnmgobibpjjaaVKeptFind.PrintWords Go.Proofs.YtmgnmgobibpjjaaVKeptFind.PrintLast Go.Proofs.YtmgnmgobibpjjaaVKeptFind.PrintMore
attribute [local go_sem] max2_int min2_int max_two min_two max_three min_three max_four min_four   -- for this text's walks alone
set_option linter.unusedVariables false
set_option linter.unusedSimpArgs false

/-! ### spec_l20Text: function 68 -/
def spec_l20Text.f (k : Nat) (s0_0 : List Int) (s0_1 : Int) : Option (ByteArray × Int) := (some (([(⟨#[97]⟩ : ByteArray), (⟨#[98]⟩ : ByteArray), (⟨#[99]⟩ : ByteArray), (⟨#[100, 100]⟩ : ByteArray), (⟨#[101, 101]⟩ : ByteArray), (⟨#[102]⟩ : ByteArray), (⟨#[103, 103]⟩ : ByteArray), (⟨#[104]⟩ : ByteArray)] : List ByteArray) : List ByteArray)).bind fun y164 => ((spec_l20Rd_pick.f k s0_0 s0_1 8).bind fun bt167 => (if 0 ≤ bt167.1 then (if bt167.1 < (y164.length : Int) then (some (rdOf ByteArray.empty y164 bt167.1, bt167.2)) else (none)) else (none)))
theorem spec_l20Text.mono : ∀ a0 a1 k, LeO (spec_l20Text.f k a0 a1) (spec_l20Text.f (k + 1) a0 a1) := by
 intro a0 a1 k
 unfold spec_l20Text.f
 repeat' first
   | (with_reducible exact spec_l20Rd_pick.mono _ _ _ _)
   | (with_reducible exact LeO.refl _)
   | (with_reducible exact LeO.none _)
   | (with_reducible refine LeO.ite ?_ ?_)
   | (with_reducible refine LeO.bind ?_ (fun _ => ?_))
   | exact spec_l20Rd_pick.mono _ _ _ _
   | exact LeO.none _
   | refine LeO.ite ?_ ?_
   | refine LeO.bind ?_ (fun _ => ?_)
set_option maxHeartbeats 8000000 in
set_option maxRecDepth 100000 in
theorem spec_l20Text.calls (k : Nat) (g : Nat) (s0_0 : List Int) (s0_1 : Int) (r1 : ByteArray) (r2 : Int) (w0 w : World) (hI : IsS96 w0 w g s0_0 s0_1) (hB : Below w0.heap.size w0 w) (h : spec_l20Text.f k s0_0 s0_1 = some (r1, r2)) :
  Calls Try.prog 68 #[.pointer (some ⟨g, 0, none⟩)] w fun e w' => e = .returned (.string r1) ∧ IsS96 w0 w' g s0_0 r2 ∧ Below w0.heap.size w0 w' ∧ KeepBut w w' g none := by
 have HI0 := Aside0.mk hI
 have HK := Aside0.mk (KeepBut.refl w g none)
 have HL := Aside0.mk hB.size
 clear hI
 have HW0 := Aside0.mk hB.size
 have HB := Aside0.mk hB
 clear hB
 have H : ((some (([(⟨#[97]⟩ : ByteArray), (⟨#[98]⟩ : ByteArray), (⟨#[99]⟩ : ByteArray), (⟨#[100, 100]⟩ : ByteArray), (⟨#[101, 101]⟩ : ByteArray), (⟨#[102]⟩ : ByteArray), (⟨#[103, 103]⟩ : ByteArray), (⟨#[104]⟩ : ByteArray)] : List ByteArray) : List ByteArray)).bind fun y164 => ((spec_l20Rd_pick.f k s0_0 s0_1 8).bind fun bt167 => (if 0 ≤ bt167.1 then (if bt167.1 < (y164.length : Int) then (some (rdOf ByteArray.empty y164 bt167.1, bt167.2)) else (none)) else (none)))) = some (r1, r2) := h
 clear h
 obtain ⟨y164, hy164⟩ : ∃ y_ : List ByteArray, y_ = (([(⟨#[97]⟩ : ByteArray), (⟨#[98]⟩ : ByteArray), (⟨#[99]⟩ : ByteArray), (⟨#[100, 100]⟩ : ByteArray), (⟨#[101, 101]⟩ : ByteArray), (⟨#[102]⟩ : ByteArray), (⟨#[103, 103]⟩ : ByteArray), (⟨#[104]⟩ : ByteArray)] : List ByteArray)) := ⟨_, rfl⟩
 replace H : ((spec_l20Rd_pick.f k s0_0 s0_1 8).bind fun bt167 => (if 0 ≤ bt167.1 then (if bt167.1 < (y164.length : Int) then (some (rdOf ByteArray.empty y164 bt167.1, bt167.2)) else (none)) else (none))) = some (r1, r2) := by first | (rw [hy164]; with_reducible exact H) | (have H2_ := (Option.bind_some _ _).symm.trans H; rw [hy164]; with_reducible exact H2_) | (have H2_ := (Option.bind_some _ _).symm.trans H; with_reducible exact H2_) | with_reducible exact H | (rw [hy164]; exact H) | exact H
 have Ny164 := Aside0.mk hy164
 clear hy164
 replace H := Option.bind_eq_some_iff.mp H
 obtain ⟨⟨t167, t168⟩, A20, H⟩ := H
 replace H : (if 0 ≤ t167 then (if t167 < (y164.length : Int) then (some (rdOf ByteArray.empty y164 t167, t168)) else (none)) else (none)) = some (r1, r2) := H
 have A2 := Aside0.mk A20
 clear A20
 by_cases c3 : 0 ≤ t167
 ·rw [if_pos c3] at H
  have c3b0 : decide (0 ≤ t167) = true := decide_eq_true c3
  clear c3
  by_cases c4 : t167 < (y164.length : Int)
  ·rw [if_pos c4] at H
   have c4b0 : decide (t167 < (y164.length : Int)) = true := decide_eq_true c4
   clear c4
   simp only [Option.some.injEq, Prod.mk.injEq] at H
   obtain ⟨rfl, rfl⟩ := H
   go_enter Try.func68, Try.ntmps68
   go_wp2_with (first | ((with_reducible refine gate_dst (N := 3) rfl ?_); refine Kd.R_lit Kd.string _ 9 ?hg (N := 3) ?hd (xs := ([(⟨#[97]⟩ : ByteArray), (⟨#[98]⟩ : ByteArray), (⟨#[99]⟩ : ByteArray), (⟨#[100, 100]⟩ : ByteArray), (⟨#[101, 101]⟩ : ByteArray), (⟨#[102]⟩ : ByteArray), (⟨#[103, 103]⟩ : ByteArray), (⟨#[104]⟩ : ByteArray)] : List ByteArray)) (inner := [.string (⟨#[97]⟩ : ByteArray), .string (⟨#[98]⟩ : ByteArray), .string (⟨#[99]⟩ : ByteArray), .string (⟨#[100, 100]⟩ : ByteArray), .string (⟨#[101, 101]⟩ : ByteArray), .string (⟨#[102]⟩ : ByteArray), .string (⟨#[103, 103]⟩ : ByteArray), .string (⟨#[104]⟩ : ByteArray)]) (ok := fun _ => True) (okp := fun _ => True) ?hr ?hp (fun _ hk => hk) trivial (Below.refl _ _) (Nat.le_refl _) (z_12) ?_; (case hd => rfl); (case hg => rfl); (case hr => exact z_9); (case hp => exact (Reps.one (show Kd.M Kd.string _ _ _ (⟨#[97]⟩ : ByteArray) [.string (⟨#[97]⟩ : ByteArray)] from rfl) (Reps.one (show Kd.M Kd.string _ _ _ (⟨#[98]⟩ : ByteArray) [.string (⟨#[98]⟩ : ByteArray)] from rfl) (Reps.one (show Kd.M Kd.string _ _ _ (⟨#[99]⟩ : ByteArray) [.string (⟨#[99]⟩ : ByteArray)] from rfl) (Reps.one (show Kd.M Kd.string _ _ _ (⟨#[100, 100]⟩ : ByteArray) [.string (⟨#[100, 100]⟩ : ByteArray)] from rfl) (Reps.one (show Kd.M Kd.string _ _ _ (⟨#[101, 101]⟩ : ByteArray) [.string (⟨#[101, 101]⟩ : ByteArray)] from rfl) (Reps.one (show Kd.M Kd.string _ _ _ (⟨#[102]⟩ : ByteArray) [.string (⟨#[102]⟩ : ByteArray)] from rfl) (Reps.one (show Kd.M Kd.string _ _ _ (⟨#[103, 103]⟩ : ByteArray) [.string (⟨#[103, 103]⟩ : ByteArray)] from rfl) (Reps.one (show Kd.M Kd.string _ _ _ (⟨#[104]⟩ : ByteArray) [.string (⟨#[104]⟩ : ByteArray)] from rfl) (Reps.none _ _)))))))))); intro v165 w5 ho6 hb hg_ hnew_; clear hg_ hnew_; (first | rw [← Ny164.out] at ho6 | (simp only [Int.reduceToNat] at ho6; rw [← Ny164.out] at ho6)); have n0_ := Aside0.mk (Kd.R_lower ho6 (keep_size (w := w) (g := g) (row := none) (z_31))); have n1_ := Aside0.mk (IsS96.below (z_32) hb); have n2_ := Aside0.mk (KeepBut.trans (z_31) (KeepBut.of_below hb g none) (.inl rfl)); have n3_ := Aside0.mk (below_step (z_33) hb); clear HI0; clear HK; clear HB; have HO166 := n0_; have HI0 := n1_; have HK := n2_; have HB := n3_; clear n0_ n1_ n2_ n3_; clear hb ho6) | ((with_reducible refine gate_callee (f := 69) rfl ?_); refine goesL_ (some 5) rfl rfl Try.func69 (z_0) rfl #[.pointer (some ⟨g, 0, none⟩), .int .i64 8] rfl (z_14) ?_; (with_reducible refine (spec_l20Rd_pick.calls k g s0_0 s0_1 8 t167 t168 w0 _ ?side1 ?side2 A2.out).mono ?_); (case side1 => exact z_32); (case side2 => exact z_33); rintro e w7 ⟨rfl, hi, hb, hk⟩; refine ⟨_, rfl, ?_⟩; have n0_ := Aside0.mk (Kd.R_mono (Kd.R_keep (IsS96.apart (show IsS96 w0 _ g s0_0 s0_1 from z_32) (by (with_reducible repeat (first | apply Kd.R_alloc | apply Kd.R_drewN | apply Kd.R_drew)); exact HO166.out) (z_5)) hk (fun _ h => h.2)) (fun _ h => h.1)); have n1_ := Aside0.mk (KeepBut.trans (z_31) hk (.inl rfl)); have n2_ := Aside0.mk (hb); have n3_ := Aside0.mk (hi); clear HO166; clear HK; clear HB; clear HI0; have HO166 := n0_; have HK := n1_; have HB := n2_; have HI0 := n3_; clear n0_ n1_ n2_ n3_; (try clear hb); (try clear hb2); (try clear hk); (try clear hi); obtain ⟨Ao8, co8, eo8⟩ := Kd.R_slice HO166.out; subst eo8; have p169 : 0 ≤ (t167 : Int) := of_decide_eq_true (z_7); have q169 : t167 < (y164.length : Int) := of_decide_eq_true (z_7); obtain ⟨ad169, e169, hx169_0⟩ := Kd.at_string (Kd.R_reads' HO166.out).2.2 t167 p169 q169; cases e169; replace p169 := eq_true p169; replace q169 := eq_true q169))
   go_ret
   exact ⟨z_13, z_32, z_33, z_31⟩
  ·rw [if_neg c4] at H
   exact absurd H (z_12)
 ·rw [if_neg c3] at H
  exact absurd H (z_12)

/-! ### spec_l20Rd_odd: function 78 -/
def spec_l20Rd_odd.f (k : Nat) (s0_0 : List Int) (s0_1 : Int) (a1 : Int) : Option (Bool × Int) := if a1 > 0 then ((spec_l20Rd_pick.f k s0_0 s0_1 a1).bind fun bt170 => (some ((bt170.1 == (wrap64 (a1 - 1))), bt170.2))) else (some (false, s0_1))
theorem spec_l20Rd_odd.mono : ∀ a0 a1 a2 k, LeO (spec_l20Rd_odd.f k a0 a1 a2) (spec_l20Rd_odd.f (k + 1) a0 a1 a2) := by
 intro a0 a1 a2 k
 unfold spec_l20Rd_odd.f
 repeat' first
   | (with_reducible exact spec_l20Rd_pick.mono _ _ _ _)
   | (with_reducible exact LeO.refl _)
   | (with_reducible exact LeO.none _)
   | (with_reducible refine LeO.ite ?_ ?_)
   | (with_reducible refine LeO.bind ?_ (fun _ => ?_))
   | exact spec_l20Rd_pick.mono _ _ _ _
   | exact LeO.none _
   | refine LeO.ite ?_ ?_
   | refine LeO.bind ?_ (fun _ => ?_)
set_option maxHeartbeats 8000000 in
set_option maxRecDepth 100000 in
theorem spec_l20Rd_odd.calls (k : Nat) (g : Nat) (s0_0 : List Int) (s0_1 : Int) (a1 : Int) (r1 : Bool) (r2 : Int) (w0 w : World) (hI : IsS96 w0 w g s0_0 s0_1) (hB : Below w0.heap.size w0 w) (h : spec_l20Rd_odd.f k s0_0 s0_1 a1 = some (r1, r2)) :
  Calls Try.prog 78 #[.pointer (some ⟨g, 0, none⟩), .int .i64 a1] w fun e w' => e = .returned (.bool r1) ∧ IsS96 w0 w' g s0_0 r2 ∧ Below w0.heap.size w0 w' ∧ KeepBut w w' g none := by
 have HI0 := Aside0.mk hI
 have HK := Aside0.mk (KeepBut.refl w g none)
 have HL := Aside0.mk hB.size
 clear hI
 have HW0 := Aside0.mk hB.size
 have HB := Aside0.mk hB
 clear hB
 have H : (if a1 > 0 then ((spec_l20Rd_pick.f k s0_0 s0_1 a1).bind fun bt170 => (some ((bt170.1 == (wrap64 (a1 - 1))), bt170.2))) else (some (false, s0_1))) = some (r1, r2) := h
 clear h
 by_cases c3 : a1 > 0
 ·rw [if_pos c3] at H
  have c3b0 : decide (0 < a1) = true := decide_eq_true c3
  clear c3
  replace H := Option.bind_eq_some_iff.mp H
  obtain ⟨⟨t170, t171⟩, A40, H⟩ := H
  replace H : (some ((t170 == (wrap64 (a1 - 1))), t171)) = some (r1, r2) := H
  have A4 := Aside0.mk A40
  clear A40
  simp only [Option.some.injEq, Prod.mk.injEq] at H
  obtain ⟨rfl, rfl⟩ := H
  go_enter Try.func78, Try.ntmps78
  go_wp2_with (first | (go_at_call 69; (with_reducible refine (spec_l20Rd_pick.calls k g s0_0 s0_1 a1 t170 t171 w0 _ ?side1 ?side2 A4.out).mono ?_); (case side1 => exact z_32); (case side2 => exact z_33); rintro e w5 ⟨rfl, hi, hb, hk⟩; have n0_ := Aside0.mk (KeepBut.trans (z_31) hk (.inl rfl)); have n1_ := Aside0.mk (hb); have n2_ := Aside0.mk (hi); clear HK; clear HB; clear HI0; have HK := n0_; have HB := n1_; have HI0 := n2_; clear n0_ n1_ n2_; (try clear hb); (try clear hb2); (try clear hk); (try clear hi)))
  go_ret
  exact ⟨z_13, z_32, z_33, z_31⟩
 ·rw [if_neg c3] at H
  have c3b0 : decide (0 < a1) = false := decide_eq_false c3
  clear c3
  simp only [Option.some.injEq, Prod.mk.injEq] at H
  obtain ⟨rfl, rfl⟩ := H
  go_enter Try.func78, Try.ntmps78
  go_wp2
  go_ret
  exact ⟨z_13, z_32, z_33, z_31⟩

/-! ### spec_l20Name: function 59 -/
def spec_l20Name.j0 : Nat → Int → List Int → Int → ByteArray → Int → Int → ByteArray → Int → Option (ByteArray × Int × Int × ByteArray × Int × Int)
 | 0, _, _, _, _, _, _, _, _ => none
 | k + 1, x1, x1000, x1001, x180000, x180001, x180002, x180003, x180004 => (spec_l20Rd_odd.f k x1000 x1001 x1).bind fun bt184 => (if bt184.1 = true then ((spec_l20Rd_pick.f k x1000 bt184.2 4).bind fun bt186 => (if bt186.1 = 0 then ((some (([(⟨#[]⟩ : ByteArray), (⟨#[65]⟩ : ByteArray), (⟨#[97, 98, 99, 100, 101, 102, 103, 104, 105, 106, 107, 108, 109]⟩ : ByteArray)] : List ByteArray) : List ByteArray)).bind fun y188 => ((spec_l20Rd_pick.f k x1000 bt186.2 3).bind fun bt191 => (if 0 ≤ bt191.1 then (if bt191.1 < (y188.length : Int) then (some (rdOf ByteArray.empty y188 bt191.1, x180001, x180002, x180003, x180004, bt191.2)) else (none)) else (none)))) else (if bt186.1 = 1 then ((spec_l20Rd_pick.f k x1000 bt186.2 2).bind fun bt194 => (some (x180000, x180001, x180002, x180003, wrap64 (bt194.1 * 51), bt194.2))) else (if bt186.1 = 2 then ((spec_l20Rd_pick.f k x1000 bt186.2 5).bind fun bt196 => (some (x180000, bt196.1, x180002, x180003, x180004, bt196.2))) else (some (x180000, x180001, x180002, (⟨#[120, 32, 121]⟩ : ByteArray), x180004, bt186.2)))))) else (some (x180000, x180001, x180002, x180003, x180004, bt184.2)))
def spec_l20Name.f (k : Nat) (s0_0 : List Int) (s0_1 : Int) (a1 : Int) : Option (ByteArray × Int × Int × ByteArray × Int × Int) := (spec_l20Text.f k s0_0 s0_1).bind fun bt173 => ((spec_l20Rd_pick.f k s0_0 bt173.2 9).bind fun bt175 => ((spec_l20Rd_pick.f k s0_0 bt175.2 20).bind fun bt177 => ((spec_l20Rd_pick.f k s0_0 bt177.2 2).bind fun bt180 => (if bt180.1 = 0 then ((spec_l20Text.f k s0_0 bt180.2).bind fun bt182 => (spec_l20Name.j0 k a1 s0_0 bt182.2 bt173.1 2 0 bt182.1 (wrap64 (1 + bt177.1)))) else (spec_l20Name.j0 k a1 s0_0 bt180.2 bt173.1 1 bt175.1 (⟨#[]⟩ : ByteArray) (wrap64 (1 + bt177.1)))))))
theorem spec_l20Name.mono_l : ∀ k, (∀ y0 y1 y2 y3 y4 y5 y6 y7, LeO (spec_l20Name.j0 k y0 y1 y2 y3 y4 y5 y6 y7) (spec_l20Name.j0 (k + 1) y0 y1 y2 y3 y4 y5 y6 y7))
 | 0 => fun _ _ _ _ _ _ _ _ r h => by simp [spec_l20Name.j0] at h
 | k + 1 => by
  have ih0 := spec_l20Name.mono_l k
  ·intro y0 y1 y2 y3 y4 y5 y6 y7
   unfold spec_l20Name.j0
   repeat' first
   | (with_reducible exact ih0 _ _ _ _ _ _ _ _)
   | (with_reducible exact spec_l20Rd_odd.mono _ _ _ _)
   | (with_reducible exact spec_l20Rd_pick.mono _ _ _ _)
   | (with_reducible exact spec_l20Text.mono _ _ _)
   | (with_reducible exact LeO.refl _)
   | (with_reducible exact LeO.none _)
   | (with_reducible refine LeO.ite ?_ ?_)
   | (with_reducible refine LeO.bind ?_ (fun _ => ?_))
   | exact ih0 _ _ _ _ _ _ _ _
   | exact spec_l20Rd_odd.mono _ _ _ _
   | exact spec_l20Rd_pick.mono _ _ _ _
   | exact spec_l20Text.mono _ _ _
   | exact LeO.none _
   | refine LeO.ite ?_ ?_
   | refine LeO.bind ?_ (fun _ => ?_)
theorem spec_l20Name.mono : ∀ a0 a1 a2 k, LeO (spec_l20Name.f k a0 a1 a2) (spec_l20Name.f (k + 1) a0 a1 a2) := by
 intro a0 a1 a2 k
 have ih0 := spec_l20Name.mono_l k
 unfold spec_l20Name.f
 repeat' first
   | (with_reducible exact ih0 _ _ _ _ _ _ _ _)
   | (with_reducible exact spec_l20Rd_odd.mono _ _ _ _)
   | (with_reducible exact spec_l20Rd_pick.mono _ _ _ _)
   | (with_reducible exact spec_l20Text.mono _ _ _)
   | (with_reducible exact LeO.refl _)
   | (with_reducible exact LeO.none _)
   | (with_reducible refine LeO.ite ?_ ?_)
   | (with_reducible refine LeO.bind ?_ (fun _ => ?_))
   | exact ih0 _ _ _ _ _ _ _ _
   | exact spec_l20Rd_odd.mono _ _ _ _
   | exact spec_l20Rd_pick.mono _ _ _ _
   | exact spec_l20Text.mono _ _ _
   | exact LeO.none _
   | refine LeO.ite ?_ ?_
   | refine LeO.bind ?_ (fun _ => ?_)
set_option maxHeartbeats 8000000 in
set_option maxRecDepth 100000 in
theorem spec_l20Name.calls (k : Nat) (g : Nat) (s0_0 : List Int) (s0_1 : Int) (a1 : Int) (r1 : ByteArray) (r2 : Int) (r3 : Int) (r4 : ByteArray) (r5 : Int) (r6 : Int) (w0 w : World) (hI : IsS96 w0 w g s0_0 s0_1) (hB : Below w0.heap.size w0 w) (h : spec_l20Name.f k s0_0 s0_1 a1 = some (r1, r2, r3, r4, r5, r6)) :
  Calls Try.prog 59 #[.pointer (some ⟨g, 0, none⟩), .int .i64 a1] w fun e w' => e = .returned (.agg #[.string r1, .int .i64 r2, .int .i64 r3, .string r4, .int .i64 r5]) ∧ IsS96 w0 w' g s0_0 r6 ∧ Below w0.heap.size w0 w' ∧ KeepBut w w' g none := by
 have hu26 := Try.underlying26
 have HI0 := Aside0.mk hI
 have HK := Aside0.mk (KeepBut.refl w g none)
 have HL := Aside0.mk hB.size
 clear hI
 have HW0 := Aside0.mk hB.size
 have HB := Aside0.mk hB
 clear hB
 have H : ((spec_l20Text.f k s0_0 s0_1).bind fun bt173 => ((spec_l20Rd_pick.f k s0_0 bt173.2 9).bind fun bt175 => ((spec_l20Rd_pick.f k s0_0 bt175.2 20).bind fun bt177 => ((spec_l20Rd_pick.f k s0_0 bt177.2 2).bind fun bt180 => (if bt180.1 = 0 then ((spec_l20Text.f k s0_0 bt180.2).bind fun bt182 => (spec_l20Name.j0 k a1 s0_0 bt182.2 bt173.1 2 0 bt182.1 (wrap64 (1 + bt177.1)))) else (spec_l20Name.j0 k a1 s0_0 bt180.2 bt173.1 1 bt175.1 (⟨#[]⟩ : ByteArray) (wrap64 (1 + bt177.1)))))))) = some (r1, r2, r3, r4, r5, r6) := h
 clear h
 replace H := Option.bind_eq_some_iff.mp H
 obtain ⟨⟨t173, t174⟩, A30, H⟩ := H
 replace H : ((spec_l20Rd_pick.f k s0_0 t174 9).bind fun bt175 => ((spec_l20Rd_pick.f k s0_0 bt175.2 20).bind fun bt177 => ((spec_l20Rd_pick.f k s0_0 bt177.2 2).bind fun bt180 => (if bt180.1 = 0 then ((spec_l20Text.f k s0_0 bt180.2).bind fun bt182 => (spec_l20Name.j0 k a1 s0_0 bt182.2 t173 2 0 bt182.1 (wrap64 (1 + bt177.1)))) else (spec_l20Name.j0 k a1 s0_0 bt180.2 t173 1 bt175.1 (⟨#[]⟩ : ByteArray) (wrap64 (1 + bt177.1))))))) = some (r1, r2, r3, r4, r5, r6) := H
 have A3 := Aside0.mk A30
 clear A30
 replace H := Option.bind_eq_some_iff.mp H
 obtain ⟨⟨t175, t176⟩, A40, H⟩ := H
 replace H : ((spec_l20Rd_pick.f k s0_0 t176 20).bind fun bt177 => ((spec_l20Rd_pick.f k s0_0 bt177.2 2).bind fun bt180 => (if bt180.1 = 0 then ((spec_l20Text.f k s0_0 bt180.2).bind fun bt182 => (spec_l20Name.j0 k a1 s0_0 bt182.2 t173 2 0 bt182.1 (wrap64 (1 + bt177.1)))) else (spec_l20Name.j0 k a1 s0_0 bt180.2 t173 1 t175 (⟨#[]⟩ : ByteArray) (wrap64 (1 + bt177.1)))))) = some (r1, r2, r3, r4, r5, r6) := H
 have A4 := Aside0.mk A40
 clear A40
 replace H := Option.bind_eq_some_iff.mp H
 obtain ⟨⟨t177, t178⟩, A50, H⟩ := H
 replace H : ((spec_l20Rd_pick.f k s0_0 t178 2).bind fun bt180 => (if bt180.1 = 0 then ((spec_l20Text.f k s0_0 bt180.2).bind fun bt182 => (spec_l20Name.j0 k a1 s0_0 bt182.2 t173 2 0 bt182.1 (wrap64 (1 + t177)))) else (spec_l20Name.j0 k a1 s0_0 bt180.2 t173 1 t175 (⟨#[]⟩ : ByteArray) (wrap64 (1 + t177))))) = some (r1, r2, r3, r4, r5, r6) := H
 have A5 := Aside0.mk A50
 clear A50
 replace H := Option.bind_eq_some_iff.mp H
 obtain ⟨⟨t180, t181⟩, A60, H⟩ := H
 replace H : (if t180 = 0 then ((spec_l20Text.f k s0_0 t181).bind fun bt182 => (spec_l20Name.j0 k a1 s0_0 bt182.2 t173 2 0 bt182.1 (wrap64 (1 + t177)))) else (spec_l20Name.j0 k a1 s0_0 t181 t173 1 t175 (⟨#[]⟩ : ByteArray) (wrap64 (1 + t177)))) = some (r1, r2, r3, r4, r5, r6) := H
 have A6 := Aside0.mk A60
 clear A60
 have HC7 := Aside0.mk H
 clear H
 go_enter Try.func59, Try.ntmps59
 go_upto_if 16 with (first | ((with_reducible refine gate_dst (N := 4) rfl ?_); refine box_event ?hg (N := 4) ?hd (cs := #[.string (⟨#[]⟩ : ByteArray), .int .i64 0, .int .i64 0, .string (⟨#[]⟩ : ByteArray), .int .i64 0]) (t := 26) ?hr ?_; (case hd => rfl); (case hg => rfl); (case hr => exact z_9); intro gb172 hg w8 hbox hb; have n0_ := Aside0.mk (IsS96.below (z_32) hb); have n1_ := Aside0.mk (KeepBut.trans (z_31) (KeepBut.of_below hb g none) (.inl rfl)); have n2_ := Aside0.mk (below_step (z_33) hb); have n3_ := Aside0.mk (hbox); have n4_ := Aside0.mk ((z_34 : w.heap.size ≤ gb172)); have n5_ := Aside0.mk ((Nat.le_trans HW0.out (z_34 : w.heap.size ≤ gb172) : w0.heap.size ≤ gb172)); have n6_ := Aside0.mk ((by rw [hg]; exact Nat.ne_of_lt (IsS96.lt (show IsS96 w0 _ g s0_0 s0_1 from z_32)) : g ≠ gb172)); have n7_ := Aside0.mk ((by rw [hg]; exact Nat.ne_of_gt (IsS96.lt (show IsS96 w0 _ g s0_0 s0_1 from z_32)) : gb172 ≠ g)); clear HI0; clear HK; clear HB; have HI0 := n0_; have HK := n1_; have HB := n2_; have BK172 := n3_; have GW172 := n4_; have GE172 := n5_; have NB0_172 := n6_; have NB172_0 := n7_; clear n0_ n1_ n2_ n3_ n4_ n5_ n6_ n7_; clear hb hbox hg) | ((with_reducible refine gate_callee (f := 68) rfl ?_); refine goesL_ (some 7) rfl rfl Try.func68 (z_0) rfl #[.pointer (some ⟨g, 0, none⟩)] rfl (z_14) ?_; (with_reducible refine (spec_l20Text.calls k g s0_0 s0_1 t173 t174 w0 _ ?side1 ?side2 A3.out).mono ?_); (case side1 => exact z_35); (case side2 => exact z_36); rintro e w9 ⟨rfl, hi, hb, hk⟩; refine ⟨_, rfl, ?_⟩; have n0_ := Aside0.mk (KeepBut.blk hk (g' := gb172) (o := .cells #[.string (⟨#[]⟩ : ByteArray), .int .i64 0, .int .i64 0, .string (⟨#[]⟩ : ByteArray), .int .i64 0] 26 (0, 0)) (z_37) NB172_0.out (z_12)); have n1_ := Aside0.mk (KeepBut.trans (z_38) hk (.inl rfl)); have n2_ := Aside0.mk (hb); have n3_ := Aside0.mk (hi); clear BK172; clear HK; clear HB; clear HI0; have BK172 := n0_; have HK := n1_; have HB := n2_; have HI0 := n3_; clear n0_ n1_ n2_ n3_; (try clear hb); (try clear hb2); (try clear hk); (try clear hi)) | ((with_reducible refine gate_callee (f := 69) rfl ?_); refine goesL_ (some 9) rfl rfl Try.func69 (z_0) rfl #[.pointer (some ⟨g, 0, none⟩), .int .i64 9] rfl (z_14) ?_; (with_reducible refine (spec_l20Rd_pick.calls k g s0_0 t174 9 t175 t176 w0 _ ?side1 ?side2 A4.out).mono ?_); (case side1 => exact z_35); (case side2 => exact z_36); rintro e w10 ⟨rfl, hi, hb, hk⟩; refine ⟨_, rfl, ?_⟩; have n0_ := Aside0.mk (KeepBut.blk hk (g' := gb172) (o := .cells #[.string (⟨#[]⟩ : ByteArray), .int .i64 0, .int .i64 0, .string (⟨#[]⟩ : ByteArray), .int .i64 0] 26 (0, 0)) (z_37) NB172_0.out (z_12)); have n1_ := Aside0.mk (KeepBut.trans (z_38) hk (.inl rfl)); have n2_ := Aside0.mk (hb); have n3_ := Aside0.mk (hi); clear BK172; clear HK; clear HB; clear HI0; have BK172 := n0_; have HK := n1_; have HB := n2_; have HI0 := n3_; clear n0_ n1_ n2_ n3_; (try clear hb); (try clear hb2); (try clear hk); (try clear hi)) | ((with_reducible refine gate_callee (f := 69) rfl ?_); refine goesL_ (some 11) rfl rfl Try.func69 (z_0) rfl #[.pointer (some ⟨g, 0, none⟩), .int .i64 20] rfl (z_14) ?_; (with_reducible refine (spec_l20Rd_pick.calls k g s0_0 t176 20 t177 t178 w0 _ ?side1 ?side2 A5.out).mono ?_); (case side1 => exact z_35); (case side2 => exact z_36); rintro e w11 ⟨rfl, hi, hb, hk⟩; refine ⟨_, rfl, ?_⟩; have n0_ := Aside0.mk (KeepBut.blk hk (g' := gb172) (o := .cells #[.string (⟨#[]⟩ : ByteArray), .int .i64 0, .int .i64 0, .string (⟨#[]⟩ : ByteArray), .int .i64 0] 26 (0, 0)) (z_37) NB172_0.out (z_12)); have n1_ := Aside0.mk (KeepBut.trans (z_38) hk (.inl rfl)); have n2_ := Aside0.mk (hb); have n3_ := Aside0.mk (hi); clear BK172; clear HK; clear HB; clear HI0; have BK172 := n0_; have HK := n1_; have HB := n2_; have HI0 := n3_; clear n0_ n1_ n2_ n3_; (try clear hb); (try clear hb2); (try clear hk); (try clear hi)) | ((with_reducible refine gate_dst (N := 5) rfl ?_); refine box_event ?hg (N := 5) ?hd (cs := #[.string (⟨#[]⟩ : ByteArray), .int .i64 0, .int .i64 0, .string (⟨#[]⟩ : ByteArray), .int .i64 0]) (t := 26) ?hr ?_; (case hd => rfl); (case hg => rfl); (case hr => exact z_9); intro gb179 hg w12 hbox hb; have n0_ := Aside0.mk (IsS96.below (z_35) hb); have n1_ := Aside0.mk (blk_below (g := gb172) (o := .cells #[.string (⟨#[]⟩ : ByteArray), .int .i64 0, .int .i64 0, .string (⟨#[]⟩ : ByteArray), .int .i64 0] 26 (0, 0)) (z_37) hb); have n2_ := Aside0.mk (KeepBut.trans (z_38) (KeepBut.of_below hb g none) (.inl rfl)); have n3_ := Aside0.mk (below_step (z_36) hb); have n4_ := Aside0.mk (hbox); have n5_ := Aside0.mk ((z_39 : w.heap.size ≤ gb179)); have n6_ := Aside0.mk ((Nat.le_trans HW0.out (z_39 : w.heap.size ≤ gb179) : w0.heap.size ≤ gb179)); have n7_ := Aside0.mk ((by rw [hg]; exact Nat.ne_of_lt (blk_lt (g := gb172) (o := .cells #[.string (⟨#[]⟩ : ByteArray), .int .i64 0, .int .i64 0, .string (⟨#[]⟩ : ByteArray), .int .i64 0] 26 (0, 0)) (z_37)) : gb172 ≠ gb179)); have n8_ := Aside0.mk ((by rw [hg]; exact Nat.ne_of_gt (blk_lt (g := gb172) (o := .cells #[.string (⟨#[]⟩ : ByteArray), .int .i64 0, .int .i64 0, .string (⟨#[]⟩ : ByteArray), .int .i64 0] 26 (0, 0)) (z_37)) : gb179 ≠ gb172)); have n9_ := Aside0.mk ((by rw [hg]; exact Nat.ne_of_lt (IsS96.lt (show IsS96 w0 _ g s0_0 t178 from z_35)) : g ≠ gb179)); have n10_ := Aside0.mk ((by rw [hg]; exact Nat.ne_of_gt (IsS96.lt (show IsS96 w0 _ g s0_0 t178 from z_35)) : gb179 ≠ g)); clear HI0; clear BK172; clear HK; clear HB; have HI0 := n0_; have BK172 := n1_; have HK := n2_; have HB := n3_; have BK179 := n4_; have GW179 := n5_; have GE179 := n6_; have NB172_179 := n7_; have NB179_172 := n8_; have NB0_179 := n9_; have NB179_0 := n10_; clear n0_ n1_ n2_ n3_ n4_ n5_ n6_ n7_ n8_ n9_ n10_; clear hb hbox hg; have hnb13 := NB179_172.out; have hnc13 := NB172_179.out; have hnb14 := NB179_0.out; have hnc14 := NB0_179.out; have hcz15_0 : w12.cell? ⟨gb179, 0, none⟩ = some (.string (⟨#[]⟩ : ByteArray)) := (blk_cell BK179.out 0).trans rfl; have hcz15_1 : w12.cell? ⟨gb179, 1, none⟩ = some (.int .i64 0) := (blk_cell BK179.out 1).trans rfl; have hcz15_2 : w12.cell? ⟨gb179, 2, none⟩ = some (.int .i64 0) := (blk_cell BK179.out 2).trans rfl; have hcz15_3 : w12.cell? ⟨gb179, 3, none⟩ = some (.string (⟨#[]⟩ : ByteArray)) := (blk_cell BK179.out 3).trans rfl; have hcz15_4 : w12.cell? ⟨gb179, 4, none⟩ = some (.int .i64 0) := (blk_cell BK179.out 4).trans rfl; have hfz15_0 := blk_frozen BK179.out 0; have hfz15_1 := blk_frozen BK179.out 1; have hfz15_2 := blk_frozen BK179.out 2; have hfz15_3 := blk_frozen BK179.out 3; have hfz15_4 := blk_frozen BK179.out 4) | ((with_reducible refine gate_callee (f := 69) rfl ?_); refine goesL_ (some 15) rfl rfl Try.func69 (z_0) rfl #[.pointer (some ⟨g, 0, none⟩), .int .i64 2] rfl (z_14) ?_; (with_reducible refine (spec_l20Rd_pick.calls k g s0_0 t178 2 t180 t181 w0 _ ?side1 ?side2 A6.out).mono ?_); (case side1 => exact z_40); (case side2 => exact z_41); rintro e w16 ⟨rfl, hi, hb, hk⟩; refine ⟨_, rfl, ?_⟩; have n0_ := Aside0.mk (KeepBut.blk hk (g' := gb172) (o := .cells #[.string (⟨#[]⟩ : ByteArray), .int .i64 0, .int .i64 0, .string (⟨#[]⟩ : ByteArray), .int .i64 0] 26 (0, 0)) (by (with_reducible repeat (first | refine blk_drewN ?_ _ | refine blk_drew ?_ | refine blk_alloc ?_ _)); refine blk_far ?_ NB172_179.out _; (with_reducible repeat (first | refine blk_drewN ?_ _ | refine blk_drew ?_ | refine blk_alloc ?_ _)); refine blk_far ?_ NB172_179.out _; (with_reducible repeat (first | refine blk_drewN ?_ _ | refine blk_drew ?_ | refine blk_alloc ?_ _)); refine blk_far ?_ NB172_179.out _; (with_reducible repeat (first | refine blk_drewN ?_ _ | refine blk_drew ?_ | refine blk_alloc ?_ _)); refine blk_far ?_ NB172_179.out _; (with_reducible repeat (first | refine blk_drewN ?_ _ | refine blk_drew ?_ | refine blk_alloc ?_ _)); refine blk_far ?_ NB172_179.out _; (with_reducible repeat (first | refine blk_drewN ?_ _ | refine blk_drew ?_ | refine blk_alloc ?_ _)); exact BK172.out) NB172_0.out (z_12)); have n1_ := Aside0.mk (KeepBut.blk hk (g' := gb179) (o := .cells #[.string t173, .int .i64 1, .int .i64 t175, .string (⟨#[]⟩ : ByteArray), .int .i64 (wrap64 (1 + t177))] 26 (0, 0)) (by (with_reducible repeat (first | refine blk_drewN ?_ _ | refine blk_drew ?_ | refine blk_alloc ?_ _)); refine blk_put (cs := #[.string t173, .int .i64 1, .int .i64 t175, .string (⟨#[]⟩ : ByteArray), .int .i64 0]) ?_ 4 _ rfl; (with_reducible repeat (first | refine blk_drewN ?_ _ | refine blk_drew ?_ | refine blk_alloc ?_ _)); refine blk_put (cs := #[.string t173, .int .i64 1, .int .i64 t175, .string (⟨#[]⟩ : ByteArray), .int .i64 0]) ?_ 3 _ rfl; (with_reducible repeat (first | refine blk_drewN ?_ _ | refine blk_drew ?_ | refine blk_alloc ?_ _)); refine blk_put (cs := #[.string t173, .int .i64 1, .int .i64 0, .string (⟨#[]⟩ : ByteArray), .int .i64 0]) ?_ 2 _ rfl; (with_reducible repeat (first | refine blk_drewN ?_ _ | refine blk_drew ?_ | refine blk_alloc ?_ _)); refine blk_put (cs := #[.string t173, .int .i64 0, .int .i64 0, .string (⟨#[]⟩ : ByteArray), .int .i64 0]) ?_ 1 _ rfl; (with_reducible repeat (first | refine blk_drewN ?_ _ | refine blk_drew ?_ | refine blk_alloc ?_ _)); refine blk_put (cs := #[.string (⟨#[]⟩ : ByteArray), .int .i64 0, .int .i64 0, .string (⟨#[]⟩ : ByteArray), .int .i64 0]) ?_ 0 _ rfl; (with_reducible repeat (first | refine blk_drewN ?_ _ | refine blk_drew ?_ | refine blk_alloc ?_ _)); exact BK179.out) NB179_0.out (z_12)); have n2_ := Aside0.mk (KeepBut.trans (z_42) hk (.inl rfl)); have n3_ := Aside0.mk (hb); have n4_ := Aside0.mk (hi); clear BK172; clear BK179; clear HK; clear HB; clear HI0; have BK172 := n0_; have BK179 := n1_; have HK := n2_; have HB := n3_; have HI0 := n4_; clear n0_ n1_ n2_ n3_ n4_; (try clear hb); (try clear hb2); (try clear hk); (try clear hi)))
 (try simp only [Act.put, List.setIfInBounds_toArray, List.set_cons_zero, List.set_cons_succ])
 go_cut [] (fun wc => ∃ (kq : Nat) (x1001_6 : Int) (x180001_6 : Int) (x180002_6 : Int) (x180003_6 : ByteArray), Aside0 (spec_l20Name.j0 kq a1 s0_0 x1001_6 t173 x180001_6 x180002_6 x180003_6 (wrap64 (1 + t177)) = some (r1, r2, r3, r4, r5, r6)) ∧ Aside0 (kq ≤ k) ∧ Aside0 (wc.heap[gb172]? = some (.cells #[.string (⟨#[]⟩ : ByteArray), .int .i64 0, .int .i64 0, .string (⟨#[]⟩ : ByteArray), .int .i64 0] 26 (0, 0))) ∧ Aside0 (wc.heap[gb179]? = some (.cells #[.string t173, .int .i64 x180001_6, .int .i64 x180002_6, .string x180003_6, .int .i64 (wrap64 (1 + t177))] 26 (0, 0))) ∧ Aside0 (IsS96 w0 wc g s0_0 x1001_6) ∧ Aside0 (KeepBut w wc g none) ∧ Aside0 (Below w0.heap.size w0 wc))
 case first =>
  have H := HC7.out
  clear HC7
  by_cases c17 : t180 = 0
  ·rw [if_pos c17] at H
   have c17b0 : (t180 == 0) = true := beq_iff_eq.mpr c17
   have c17b1 : (t180 != 0) = false := bne_eq_false_iff_eq.mpr c17
   clear c17
   (first | rw [c17b0] | (simp only [i64_w, i32_w]; rw [c17b0]) | skip)
   replace H := Option.bind_eq_some_iff.mp H
   obtain ⟨⟨t182, t183⟩, A180, H⟩ := H
   replace H : (spec_l20Name.j0 k a1 s0_0 t183 t173 2 0 t182 (wrap64 (1 + t177))) = some (r1, r2, r3, r4, r5, r6) := H
   have A18 := Aside0.mk A180
   clear A180
   have H' := Aside0.mk H
   clear H
   have hnb19 := NB179_172.out
   have hnc19 := NB172_179.out
   have hnb20 := NB179_0.out
   have hnc20 := NB0_179.out
   have hcz21_0 : w16.cell? ⟨gb179, 0, none⟩ = some (.string t173) := (blk_cell BK179.out 0).trans rfl
   have hcz21_1 : w16.cell? ⟨gb179, 1, none⟩ = some (.int .i64 1) := (blk_cell BK179.out 1).trans rfl
   have hcz21_2 : w16.cell? ⟨gb179, 2, none⟩ = some (.int .i64 t175) := (blk_cell BK179.out 2).trans rfl
   have hcz21_3 : w16.cell? ⟨gb179, 3, none⟩ = some (.string (⟨#[]⟩ : ByteArray)) := (blk_cell BK179.out 3).trans rfl
   have hcz21_4 : w16.cell? ⟨gb179, 4, none⟩ = some (.int .i64 (wrap64 (1 + t177))) := (blk_cell BK179.out 4).trans rfl
   have hfz21_0 := blk_frozen BK179.out 0
   have hfz21_1 := blk_frozen BK179.out 1
   have hfz21_2 := blk_frozen BK179.out 2
   have hfz21_3 := blk_frozen BK179.out 3
   have hfz21_4 := blk_frozen BK179.out 4
   go_wp2_with (first | ((with_reducible refine gate_callee (f := 68) rfl ?_); refine goesL_ (some 20) rfl rfl Try.func68 (z_0) rfl #[.pointer (some ⟨g, 0, none⟩)] rfl (z_14) ?_; (with_reducible refine (spec_l20Text.calls k g s0_0 t181 t182 t183 w0 _ ?side1 ?side2 A18.out).mono ?_); (case side1 => exact z_40); (case side2 => exact z_41); rintro e w22 ⟨rfl, hi, hb, hk⟩; refine ⟨_, rfl, ?_⟩; have n0_ := Aside0.mk (KeepBut.blk hk (g' := gb172) (o := .cells #[.string (⟨#[]⟩ : ByteArray), .int .i64 0, .int .i64 0, .string (⟨#[]⟩ : ByteArray), .int .i64 0] 26 (0, 0)) (by (with_reducible repeat (first | refine blk_drewN ?_ _ | refine blk_drew ?_ | refine blk_alloc ?_ _)); refine blk_far ?_ NB172_179.out _; (with_reducible repeat (first | refine blk_drewN ?_ _ | refine blk_drew ?_ | refine blk_alloc ?_ _)); refine blk_far ?_ NB172_179.out _; (with_reducible repeat (first | refine blk_drewN ?_ _ | refine blk_drew ?_ | refine blk_alloc ?_ _)); exact BK172.out) NB172_0.out (z_12)); have n1_ := Aside0.mk (KeepBut.blk hk (g' := gb179) (o := .cells #[.string t173, .int .i64 2, .int .i64 0, .string (⟨#[]⟩ : ByteArray), .int .i64 (wrap64 (1 + t177))] 26 (0, 0)) (by (with_reducible repeat (first | refine blk_drewN ?_ _ | refine blk_drew ?_ | refine blk_alloc ?_ _)); refine blk_put (cs := #[.string t173, .int .i64 2, .int .i64 t175, .string (⟨#[]⟩ : ByteArray), .int .i64 (wrap64 (1 + t177))]) ?_ 2 _ rfl; (with_reducible repeat (first | refine blk_drewN ?_ _ | refine blk_drew ?_ | refine blk_alloc ?_ _)); refine blk_put (cs := #[.string t173, .int .i64 1, .int .i64 t175, .string (⟨#[]⟩ : ByteArray), .int .i64 (wrap64 (1 + t177))]) ?_ 1 _ rfl; (with_reducible repeat (first | refine blk_drewN ?_ _ | refine blk_drew ?_ | refine blk_alloc ?_ _)); exact BK179.out) NB179_0.out (z_12)); have n2_ := Aside0.mk (KeepBut.trans (z_42) hk (.inl rfl)); have n3_ := Aside0.mk (hb); have n4_ := Aside0.mk (hi); clear BK172; clear BK179; clear HK; clear HB; clear HI0; have BK172 := n0_; have BK179 := n1_; have HK := n2_; have HB := n3_; have HI0 := n4_; clear n0_ n1_ n2_ n3_ n4_; (try clear hb); (try clear hb2); (try clear hk); (try clear hi); have hcz23_0 : w22.cell? ⟨gb179, 0, none⟩ = some (.string t173) := (blk_cell BK179.out 0).trans rfl; have hcz23_1 : w22.cell? ⟨gb179, 1, none⟩ = some (.int .i64 2) := (blk_cell BK179.out 1).trans rfl; have hcz23_2 : w22.cell? ⟨gb179, 2, none⟩ = some (.int .i64 0) := (blk_cell BK179.out 2).trans rfl; have hcz23_3 : w22.cell? ⟨gb179, 3, none⟩ = some (.string (⟨#[]⟩ : ByteArray)) := (blk_cell BK179.out 3).trans rfl; have hcz23_4 : w22.cell? ⟨gb179, 4, none⟩ = some (.int .i64 (wrap64 (1 + t177))) := (blk_cell BK179.out 4).trans rfl; have hfz23_0 := blk_frozen BK179.out 0; have hfz23_1 := blk_frozen BK179.out 1; have hfz23_2 := blk_frozen BK179.out 2; have hfz23_3 := blk_frozen BK179.out 3; have hfz23_4 := blk_frozen BK179.out 4))
   go_meet
   case rel => exact ⟨_, (t183), (2), (0), (t182), H', ⟨z_23⟩, ⟨by (with_reducible repeat (first | refine blk_drewN ?_ _ | refine blk_drew ?_ | refine blk_alloc ?_ _)); refine blk_far ?_ NB172_179.out _; (with_reducible repeat (first | refine blk_drewN ?_ _ | refine blk_drew ?_ | refine blk_alloc ?_ _)); exact BK172.out⟩, ⟨by (with_reducible repeat (first | refine blk_drewN ?_ _ | refine blk_drew ?_ | refine blk_alloc ?_ _)); refine blk_put (cs := #[.string t173, .int .i64 2, .int .i64 0, .string (⟨#[]⟩ : ByteArray), .int .i64 (wrap64 (1 + t177))]) ?_ 3 _ rfl; (with_reducible repeat (first | refine blk_drewN ?_ _ | refine blk_drew ?_ | refine blk_alloc ?_ _)); exact BK179.out⟩, ⟨z_40⟩, ⟨z_42⟩, ⟨z_41⟩⟩
  ·rw [if_neg c17] at H
   have c17b0 : (t180 == 0) = false := beq_eq_false_iff_ne.mpr c17
   have c17b1 : (t180 != 0) = true := bne_iff_ne.mpr c17
   (first | rw [c17b0] | (simp only [i64_w, i32_w]; rw [c17b0]) | skip)
   have H' := Aside0.mk H
   clear H
   go_wp2
   go_meet
   case rel => exact ⟨_, (t181), (1), (t175), ((⟨#[]⟩ : ByteArray)), H', ⟨z_23⟩, ⟨z_37⟩, ⟨z_43⟩, ⟨z_40⟩, ⟨z_42⟩, ⟨z_41⟩⟩
 case rest =>
  clear HC7
  try clear c1
  try clear c2
  try clear p2
  try clear c5
  try clear c6
  try clear p6
  try clear c13
  try clear c14
  try clear c17
  try clear c17b0
  try clear c17b1
  try clear c19
  try clear c20
  try clear hcz15_0
  try clear hcz15_1
  try clear hcz15_2
  try clear hcz15_3
  try clear hcz15_4
  try clear hcz21_0
  try clear hcz21_1
  try clear hcz21_2
  try clear hcz21_3
  try clear hcz21_4
  try clear hcz23_0
  try clear hcz23_1
  try clear hcz23_2
  try clear hcz23_3
  try clear hcz23_4
  try clear hfz15_0
  try clear hfz15_1
  try clear hfz15_2
  try clear hfz15_3
  try clear hfz15_4
  try clear hfz21_0
  try clear hfz21_1
  try clear hfz21_2
  try clear hfz21_3
  try clear hfz21_4
  try clear hfz23_0
  try clear hfz23_1
  try clear hfz23_2
  try clear hfz23_3
  try clear hfz23_4
  obtain ⟨kq, x1001_6, x180001_6, x180002_6, x180003_6, HA, HJ6, BK172, BK179, HI0, HK, HB⟩ := hcut
  cases kq with
  | zero => exact absurd HA.out (by simp [spec_l20Name.j0])
  | succ kj6 =>
   have H := HA.out
   clear HA
   simp only [spec_l20Name.j0] at H
   replace H := Option.bind_eq_some_iff.mp H
   obtain ⟨⟨t184, t185⟩, A240, H⟩ := H
   replace H : (if t184 = true then ((spec_l20Rd_pick.f kj6 s0_0 t185 4).bind fun bt186 => (if bt186.1 = 0 then ((some (([(⟨#[]⟩ : ByteArray), (⟨#[65]⟩ : ByteArray), (⟨#[97, 98, 99, 100, 101, 102, 103, 104, 105, 106, 107, 108, 109]⟩ : ByteArray)] : List ByteArray) : List ByteArray)).bind fun y188 => ((spec_l20Rd_pick.f kj6 s0_0 bt186.2 3).bind fun bt191 => (if 0 ≤ bt191.1 then (if bt191.1 < (y188.length : Int) then (some (rdOf ByteArray.empty y188 bt191.1, x180001_6, x180002_6, x180003_6, (wrap64 (1 + t177)), bt191.2)) else (none)) else (none)))) else (if bt186.1 = 1 then ((spec_l20Rd_pick.f kj6 s0_0 bt186.2 2).bind fun bt194 => (some (t173, x180001_6, x180002_6, x180003_6, wrap64 (bt194.1 * 51), bt194.2))) else (if bt186.1 = 2 then ((spec_l20Rd_pick.f kj6 s0_0 bt186.2 5).bind fun bt196 => (some (t173, bt196.1, x180002_6, x180003_6, (wrap64 (1 + t177)), bt196.2))) else (some (t173, x180001_6, x180002_6, (⟨#[120, 32, 121]⟩ : ByteArray), (wrap64 (1 + t177)), bt186.2)))))) else (some (t173, x180001_6, x180002_6, x180003_6, (wrap64 (1 + t177)), t185))) = some (r1, r2, r3, r4, r5, r6) := H
   have A24 := Aside0.mk A240
   clear A240
   by_cases c25 : t184 = true
   ·subst c25
    rw [if_pos rfl] at H
    replace H := Option.bind_eq_some_iff.mp H
    obtain ⟨⟨t186, t187⟩, A260, H⟩ := H
    replace H : (if t186 = 0 then ((some (([(⟨#[]⟩ : ByteArray), (⟨#[65]⟩ : ByteArray), (⟨#[97, 98, 99, 100, 101, 102, 103, 104, 105, 106, 107, 108, 109]⟩ : ByteArray)] : List ByteArray) : List ByteArray)).bind fun y188 => ((spec_l20Rd_pick.f kj6 s0_0 t187 3).bind fun bt191 => (if 0 ≤ bt191.1 then (if bt191.1 < (y188.length : Int) then (some (rdOf ByteArray.empty y188 bt191.1, x180001_6, x180002_6, x180003_6, (wrap64 (1 + t177)), bt191.2)) else (none)) else (none)))) else (if t186 = 1 then ((spec_l20Rd_pick.f kj6 s0_0 t187 2).bind fun bt194 => (some (t173, x180001_6, x180002_6, x180003_6, wrap64 (bt194.1 * 51), bt194.2))) else (if t186 = 2 then ((spec_l20Rd_pick.f kj6 s0_0 t187 5).bind fun bt196 => (some (t173, bt196.1, x180002_6, x180003_6, (wrap64 (1 + t177)), bt196.2))) else (some (t173, x180001_6, x180002_6, (⟨#[120, 32, 121]⟩ : ByteArray), (wrap64 (1 + t177)), t187))))) = some (r1, r2, r3, r4, r5, r6) := H
    have A26 := Aside0.mk A260
    clear A260
    by_cases c27 : t186 = 0
    ·rw [if_pos c27] at H
     have c27b0 : (t186 == 0) = true := beq_iff_eq.mpr c27
     have c27b1 : (t186 != 0) = false := bne_eq_false_iff_eq.mpr c27
     clear c27
     obtain ⟨y188, hy188⟩ : ∃ y_ : List ByteArray, y_ = (([(⟨#[]⟩ : ByteArray), (⟨#[65]⟩ : ByteArray), (⟨#[97, 98, 99, 100, 101, 102, 103, 104, 105, 106, 107, 108, 109]⟩ : ByteArray)] : List ByteArray)) := ⟨_, rfl⟩
     replace H : ((spec_l20Rd_pick.f kj6 s0_0 t187 3).bind fun bt191 => (if 0 ≤ bt191.1 then (if bt191.1 < (y188.length : Int) then (some (rdOf ByteArray.empty y188 bt191.1, x180001_6, x180002_6, x180003_6, (wrap64 (1 + t177)), bt191.2)) else (none)) else (none))) = some (r1, r2, r3, r4, r5, r6) := by first | (rw [hy188]; with_reducible exact H) | (have H2_ := (Option.bind_some _ _).symm.trans H; rw [hy188]; with_reducible exact H2_) | (have H2_ := (Option.bind_some _ _).symm.trans H; with_reducible exact H2_) | with_reducible exact H | (rw [hy188]; exact H) | exact H
     have Ny188 := Aside0.mk hy188
     clear hy188
     replace H := Option.bind_eq_some_iff.mp H
     obtain ⟨⟨t191, t192⟩, A280, H⟩ := H
     replace H : (if 0 ≤ t191 then (if t191 < (y188.length : Int) then (some (rdOf ByteArray.empty y188 t191, x180001_6, x180002_6, x180003_6, (wrap64 (1 + t177)), t192)) else (none)) else (none)) = some (r1, r2, r3, r4, r5, r6) := H
     have A28 := Aside0.mk A280
     clear A280
     by_cases c29 : 0 ≤ t191
     ·rw [if_pos c29] at H
      have c29b0 : decide (0 ≤ t191) = true := decide_eq_true c29
      clear c29
      by_cases c30 : t191 < (y188.length : Int)
      ·rw [if_pos c30] at H
       have c30b0 : decide (t191 < (y188.length : Int)) = true := decide_eq_true c30
       clear c30
       simp only [Option.some.injEq, Prod.mk.injEq] at H
       obtain ⟨rfl, rfl, rfl, rfl, rfl, rfl⟩ := H
       go_wp2_with (first | ((with_reducible refine gate_callee (f := 78) rfl ?_); refine goesL_ (some 24) rfl rfl Try.func78 (z_0) rfl #[.pointer (some ⟨g, 0, none⟩), .int .i64 a1] rfl (z_14) ?_; (with_reducible refine (spec_l20Rd_odd.calls kj6 g s0_0 x1001_6 a1 true t185 w0 _ ?side1 ?side2 A24.out).mono ?_); (case side1 => exact z_40); (case side2 => exact z_41); rintro e w31 ⟨rfl, hi, hb, hk⟩; refine ⟨_, rfl, ?_⟩; have n0_ := Aside0.mk (KeepBut.blk hk (g' := gb172) (o := .cells #[.string (⟨#[]⟩ : ByteArray), .int .i64 0, .int .i64 0, .string (⟨#[]⟩ : ByteArray), .int .i64 0] 26 (0, 0)) (z_37) NB172_0.out (z_12)); have n1_ := Aside0.mk (KeepBut.blk hk (g' := gb179) (o := .cells #[.string t173, .int .i64 x180001_6, .int .i64 x180002_6, .string x180003_6, .int .i64 (wrap64 (1 + t177))] 26 (0, 0)) (z_43) NB179_0.out (z_12)); have n2_ := Aside0.mk (KeepBut.trans (z_42) hk (.inl rfl)); have n3_ := Aside0.mk (hb); have n4_ := Aside0.mk (hi); clear BK172; clear BK179; clear HK; clear HB; clear HI0; have BK172 := n0_; have BK179 := n1_; have HK := n2_; have HB := n3_; have HI0 := n4_; clear n0_ n1_ n2_ n3_ n4_; (try clear hb); (try clear hb2); (try clear hk); (try clear hi)) | ((with_reducible refine gate_callee (f := 69) rfl ?_); refine goesL_ (some 26) rfl rfl Try.func69 (z_0) rfl #[.pointer (some ⟨g, 0, none⟩), .int .i64 4] rfl (z_14) ?_; (with_reducible refine (spec_l20Rd_pick.calls kj6 g s0_0 t185 4 t186 t187 w0 _ ?side1 ?side2 A26.out).mono ?_); (case side1 => exact z_40); (case side2 => exact z_41); rintro e w32 ⟨rfl, hi, hb, hk⟩; refine ⟨_, rfl, ?_⟩; have n0_ := Aside0.mk (KeepBut.blk hk (g' := gb172) (o := .cells #[.string (⟨#[]⟩ : ByteArray), .int .i64 0, .int .i64 0, .string (⟨#[]⟩ : ByteArray), .int .i64 0] 26 (0, 0)) (z_37) NB172_0.out (z_12)); have n1_ := Aside0.mk (KeepBut.blk hk (g' := gb179) (o := .cells #[.string t173, .int .i64 x180001_6, .int .i64 x180002_6, .string x180003_6, .int .i64 (wrap64 (1 + t177))] 26 (0, 0)) (z_43) NB179_0.out (z_12)); have n2_ := Aside0.mk (KeepBut.trans (z_42) hk (.inl rfl)); have n3_ := Aside0.mk (hb); have n4_ := Aside0.mk (hi); clear BK172; clear BK179; clear HK; clear HB; clear HI0; have BK172 := n0_; have BK179 := n1_; have HK := n2_; have HB := n3_; have HI0 := n4_; clear n0_ n1_ n2_ n3_ n4_; (try clear hb); (try clear hb2); (try clear hk); (try clear hi)) | ((with_reducible refine gate_dst (N := 30) rfl ?_); refine Kd.R_lit Kd.string _ 9 ?hg (N := 30) ?hd (xs := ([(⟨#[]⟩ : ByteArray), (⟨#[65]⟩ : ByteArray), (⟨#[97, 98, 99, 100, 101, 102, 103, 104, 105, 106, 107, 108, 109]⟩ : ByteArray)] : List ByteArray)) (inner := [.string (⟨#[]⟩ : ByteArray), .string (⟨#[65]⟩ : ByteArray), .string (⟨#[97, 98, 99, 100, 101, 102, 103, 104, 105, 106, 107, 108, 109]⟩ : ByteArray)]) (ok := fun _ => True) (okp := fun _ => True) ?hr ?hp (fun _ hk => hk) trivial (Below.refl _ _) (Nat.le_refl _) (z_12) ?_; (case hd => rfl); (case hg => rfl); (case hr => exact z_9); (case hp => exact (Reps.one (show Kd.M Kd.string _ _ _ (⟨#[]⟩ : ByteArray) [.string (⟨#[]⟩ : ByteArray)] from rfl) (Reps.one (show Kd.M Kd.string _ _ _ (⟨#[65]⟩ : ByteArray) [.string (⟨#[65]⟩ : ByteArray)] from rfl) (Reps.one (show Kd.M Kd.string _ _ _ (⟨#[97, 98, 99, 100, 101, 102, 103, 104, 105, 106, 107, 108, 109]⟩ : ByteArray) [.string (⟨#[97, 98, 99, 100, 101, 102, 103, 104, 105, 106, 107, 108, 109]⟩ : ByteArray)] from rfl) (Reps.none _ _))))); intro v189 w33 ho34 hb hg_ hnew_; clear hg_ hnew_; (first | rw [← Ny188.out] at ho34 | (simp only [Int.reduceToNat] at ho34; rw [← Ny188.out] at ho34)); have n0_ := Aside0.mk (Kd.R_lower ho34 (keep_size (w := w) (g := g) (row := none) (z_42))); have n1_ := Aside0.mk (blk_below (g := gb172) (o := .cells #[.string (⟨#[]⟩ : ByteArray), .int .i64 0, .int .i64 0, .string (⟨#[]⟩ : ByteArray), .int .i64 0] 26 (0, 0)) (z_37) hb); have n2_ := Aside0.mk (blk_below (g := gb179) (o := .cells #[.string t173, .int .i64 x180001_6, .int .i64 x180002_6, .string x180003_6, .int .i64 (wrap64 (1 + t177))] 26 (0, 0)) (z_43) hb); have n3_ := Aside0.mk (IsS96.below (z_40) hb); have n4_ := Aside0.mk (KeepBut.trans (z_42) (KeepBut.of_below hb g none) (.inl rfl)); have n5_ := Aside0.mk (below_step (z_41) hb); clear BK172; clear BK179; clear HI0; clear HK; clear HB; have HO190 := n0_; have BK172 := n1_; have BK179 := n2_; have HI0 := n3_; have HK := n4_; have HB := n5_; clear n0_ n1_ n2_ n3_ n4_ n5_; clear hb ho34) | ((with_reducible refine gate_callee (f := 69) rfl ?_); refine goesL_ (some 32) rfl rfl Try.func69 (z_0) rfl #[.pointer (some ⟨g, 0, none⟩), .int .i64 3] rfl (z_14) ?_; (with_reducible refine (spec_l20Rd_pick.calls kj6 g s0_0 t187 3 t191 t192 w0 _ ?side1 ?side2 A28.out).mono ?_); (case side1 => exact z_40); (case side2 => exact z_41); rintro e w35 ⟨rfl, hi, hb, hk⟩; refine ⟨_, rfl, ?_⟩; have n0_ := Aside0.mk (KeepBut.blk hk (g' := gb172) (o := .cells #[.string (⟨#[]⟩ : ByteArray), .int .i64 0, .int .i64 0, .string (⟨#[]⟩ : ByteArray), .int .i64 0] 26 (0, 0)) (z_37) NB172_0.out (z_12)); have n1_ := Aside0.mk (KeepBut.blk hk (g' := gb179) (o := .cells #[.string t173, .int .i64 x180001_6, .int .i64 x180002_6, .string x180003_6, .int .i64 (wrap64 (1 + t177))] 26 (0, 0)) (z_43) NB179_0.out (z_12)); have n2_ := Aside0.mk (Kd.R_mono (Kd.R_keep (IsS96.apart (show IsS96 w0 _ g s0_0 t187 from z_40) (by (with_reducible repeat (first | apply Kd.R_alloc | apply Kd.R_drewN | apply Kd.R_drew)); exact HO190.out) (z_5)) hk (fun _ h => h.2)) (fun _ h => h.1)); have n3_ := Aside0.mk (KeepBut.trans (z_42) hk (.inl rfl)); have n4_ := Aside0.mk (hb); have n5_ := Aside0.mk (hi); clear BK172; clear BK179; clear HO190; clear HK; clear HB; clear HI0; have BK172 := n0_; have BK179 := n1_; have HO190 := n2_; have HK := n3_; have HB := n4_; have HI0 := n5_; clear n0_ n1_ n2_ n3_ n4_ n5_; (try clear hb); (try clear hb2); (try clear hk); (try clear hi); obtain ⟨Ao36, co36, eo36⟩ := Kd.R_slice HO190.out; subst eo36; have p193 : 0 ≤ (t191 : Int) := of_decide_eq_true (z_7); have q193 : t191 < (y188.length : Int) := of_decide_eq_true (z_7); obtain ⟨ad193, e193, hx193_0⟩ := Kd.at_string (Kd.R_reads' HO190.out).2.2 t191 p193 q193; cases e193; replace p193 := eq_true p193; replace q193 := eq_true q193; have hnb37 := NB179_172.out; have hnc37 := NB172_179.out; have hnb38 := NB179_0.out; have hnc38 := NB0_179.out; have hcz39_0 : w35.cell? ⟨gb179, 0, none⟩ = some (.string t173) := (blk_cell BK179.out 0).trans rfl; have hcz39_1 : w35.cell? ⟨gb179, 1, none⟩ = some (.int .i64 x180001_6) := (blk_cell BK179.out 1).trans rfl; have hcz39_2 : w35.cell? ⟨gb179, 2, none⟩ = some (.int .i64 x180002_6) := (blk_cell BK179.out 2).trans rfl; have hcz39_3 : w35.cell? ⟨gb179, 3, none⟩ = some (.string x180003_6) := (blk_cell BK179.out 3).trans rfl; have hcz39_4 : w35.cell? ⟨gb179, 4, none⟩ = some (.int .i64 (wrap64 (1 + t177))) := (blk_cell BK179.out 4).trans rfl; have hfz39_0 := blk_frozen BK179.out 0; have hfz39_1 := blk_frozen BK179.out 1; have hfz39_2 := blk_frozen BK179.out 2; have hfz39_3 := blk_frozen BK179.out 3; have hfz39_4 := blk_frozen BK179.out 4; have hnb40 := NB172_0.out; have hnc40 := NB0_172.out; have hcz41_0 : w35.cell? ⟨gb172, 0, none⟩ = some (.string (⟨#[]⟩ : ByteArray)) := (blk_cell BK172.out 0).trans rfl; have hcz41_1 : w35.cell? ⟨gb172, 1, none⟩ = some (.int .i64 0) := (blk_cell BK172.out 1).trans rfl; have hcz41_2 : w35.cell? ⟨gb172, 2, none⟩ = some (.int .i64 0) := (blk_cell BK172.out 2).trans rfl; have hcz41_3 : w35.cell? ⟨gb172, 3, none⟩ = some (.string (⟨#[]⟩ : ByteArray)) := (blk_cell BK172.out 3).trans rfl; have hcz41_4 : w35.cell? ⟨gb172, 4, none⟩ = some (.int .i64 0) := (blk_cell BK172.out 4).trans rfl; have hfz41_0 := blk_frozen BK172.out 0; have hfz41_1 := blk_frozen BK172.out 1; have hfz41_2 := blk_frozen BK172.out 2; have hfz41_3 := blk_frozen BK172.out 3; have hfz41_4 := blk_frozen BK172.out 4))
       refine bodyPost_ret (results_cell_row rfl _ _ gb172 26 #[.string (rdOf ByteArray.empty y188 t191), .int .i64 x180001_6, .int .i64 x180002_6, .string x180003_6, .int .i64 (wrap64 (1 + t177))] (0, 0) _ rfl (by (with_reducible repeat (first | refine blk_drewN ?_ _ | refine blk_drew ?_ | refine blk_alloc ?_ _)); refine blk_put (cs := #[.string (rdOf ByteArray.empty y188 t191), .int .i64 x180001_6, .int .i64 x180002_6, .string x180003_6, .int .i64 0]) ?_ 4 _ rfl; (with_reducible repeat (first | refine blk_drewN ?_ _ | refine blk_drew ?_ | refine blk_alloc ?_ _)); refine blk_put (cs := #[.string (rdOf ByteArray.empty y188 t191), .int .i64 x180001_6, .int .i64 x180002_6, .string (⟨#[]⟩ : ByteArray), .int .i64 0]) ?_ 3 _ rfl; (with_reducible repeat (first | refine blk_drewN ?_ _ | refine blk_drew ?_ | refine blk_alloc ?_ _)); refine blk_put (cs := #[.string (rdOf ByteArray.empty y188 t191), .int .i64 x180001_6, .int .i64 0, .string (⟨#[]⟩ : ByteArray), .int .i64 0]) ?_ 2 _ rfl; (with_reducible repeat (first | refine blk_drewN ?_ _ | refine blk_drew ?_ | refine blk_alloc ?_ _)); refine blk_put (cs := #[.string (rdOf ByteArray.empty y188 t191), .int .i64 0, .int .i64 0, .string (⟨#[]⟩ : ByteArray), .int .i64 0]) ?_ 1 _ rfl; (with_reducible repeat (first | refine blk_drewN ?_ _ | refine blk_drew ?_ | refine blk_alloc ?_ _)); refine blk_put (cs := #[.string (⟨#[]⟩ : ByteArray), .int .i64 0, .int .i64 0, .string (⟨#[]⟩ : ByteArray), .int .i64 0]) ?_ 0 _ rfl; (with_reducible repeat (first | refine blk_drewN ?_ _ | refine blk_drew ?_ | refine blk_alloc ?_ _)); refine blk_far ?_ NB172_179.out _; (with_reducible repeat (first | refine blk_drewN ?_ _ | refine blk_drew ?_ | refine blk_alloc ?_ _)); exact BK172.out) Try.underlying26 rfl (z_0)) rfl ?_
       exact ⟨z_13, z_40, z_41, z_42⟩
      ·rw [if_neg c30] at H
       exact absurd H (z_12)
     ·rw [if_neg c29] at H
      exact absurd H (z_12)
    ·rw [if_neg c27] at H
     have c27b0 : (t186 == 0) = false := beq_eq_false_iff_ne.mpr c27
     have c27b1 : (t186 != 0) = true := bne_iff_ne.mpr c27
     by_cases c42 : t186 = 1
     ·rw [if_pos c42] at H
      have c42b0 : (t186 == 1) = true := beq_iff_eq.mpr c42
      have c42b1 : (t186 != 1) = false := bne_eq_false_iff_eq.mpr c42
      clear c42
      replace H := Option.bind_eq_some_iff.mp H
      obtain ⟨⟨t194, t195⟩, A430, H⟩ := H
      replace H : (some (t173, x180001_6, x180002_6, x180003_6, wrap64 (t194 * 51), t195)) = some (r1, r2, r3, r4, r5, r6) := H
      have A43 := Aside0.mk A430
      clear A430
      simp only [Option.some.injEq, Prod.mk.injEq] at H
      obtain ⟨rfl, rfl, rfl, rfl, rfl, rfl⟩ := H
      go_wp2_with (first | ((with_reducible refine gate_callee (f := 78) rfl ?_); refine goesL_ (some 24) rfl rfl Try.func78 (z_0) rfl #[.pointer (some ⟨g, 0, none⟩), .int .i64 a1] rfl (z_14) ?_; (with_reducible refine (spec_l20Rd_odd.calls kj6 g s0_0 x1001_6 a1 true t185 w0 _ ?side1 ?side2 A24.out).mono ?_); (case side1 => exact z_40); (case side2 => exact z_41); rintro e w44 ⟨rfl, hi, hb, hk⟩; refine ⟨_, rfl, ?_⟩; have n0_ := Aside0.mk (KeepBut.blk hk (g' := gb172) (o := .cells #[.string (⟨#[]⟩ : ByteArray), .int .i64 0, .int .i64 0, .string (⟨#[]⟩ : ByteArray), .int .i64 0] 26 (0, 0)) (z_37) NB172_0.out (z_12)); have n1_ := Aside0.mk (KeepBut.blk hk (g' := gb179) (o := .cells #[.string t173, .int .i64 x180001_6, .int .i64 x180002_6, .string x180003_6, .int .i64 (wrap64 (1 + t177))] 26 (0, 0)) (z_43) NB179_0.out (z_12)); have n2_ := Aside0.mk (KeepBut.trans (z_42) hk (.inl rfl)); have n3_ := Aside0.mk (hb); have n4_ := Aside0.mk (hi); clear BK172; clear BK179; clear HK; clear HB; clear HI0; have BK172 := n0_; have BK179 := n1_; have HK := n2_; have HB := n3_; have HI0 := n4_; clear n0_ n1_ n2_ n3_ n4_; (try clear hb); (try clear hb2); (try clear hk); (try clear hi)) | ((with_reducible refine gate_callee (f := 69) rfl ?_); refine goesL_ (some 26) rfl rfl Try.func69 (z_0) rfl #[.pointer (some ⟨g, 0, none⟩), .int .i64 4] rfl (z_14) ?_; (with_reducible refine (spec_l20Rd_pick.calls kj6 g s0_0 t185 4 t186 t187 w0 _ ?side1 ?side2 A26.out).mono ?_); (case side1 => exact z_40); (case side2 => exact z_41); rintro e w45 ⟨rfl, hi, hb, hk⟩; refine ⟨_, rfl, ?_⟩; have n0_ := Aside0.mk (KeepBut.blk hk (g' := gb172) (o := .cells #[.string (⟨#[]⟩ : ByteArray), .int .i64 0, .int .i64 0, .string (⟨#[]⟩ : ByteArray), .int .i64 0] 26 (0, 0)) (z_37) NB172_0.out (z_12)); have n1_ := Aside0.mk (KeepBut.blk hk (g' := gb179) (o := .cells #[.string t173, .int .i64 x180001_6, .int .i64 x180002_6, .string x180003_6, .int .i64 (wrap64 (1 + t177))] 26 (0, 0)) (z_43) NB179_0.out (z_12)); have n2_ := Aside0.mk (KeepBut.trans (z_42) hk (.inl rfl)); have n3_ := Aside0.mk (hb); have n4_ := Aside0.mk (hi); clear BK172; clear BK179; clear HK; clear HB; clear HI0; have BK172 := n0_; have BK179 := n1_; have HK := n2_; have HB := n3_; have HI0 := n4_; clear n0_ n1_ n2_ n3_ n4_; (try clear hb); (try clear hb2); (try clear hk); (try clear hi)) | ((with_reducible refine gate_callee (f := 69) rfl ?_); refine goesL_ (some 39) rfl rfl Try.func69 (z_0) rfl #[.pointer (some ⟨g, 0, none⟩), .int .i64 2] rfl (z_14) ?_; (with_reducible refine (spec_l20Rd_pick.calls kj6 g s0_0 t187 2 t194 t195 w0 _ ?side1 ?side2 A43.out).mono ?_); (case side1 => exact z_40); (case side2 => exact z_41); rintro e w46 ⟨rfl, hi, hb, hk⟩; refine ⟨_, rfl, ?_⟩; have n0_ := Aside0.mk (KeepBut.blk hk (g' := gb172) (o := .cells #[.string (⟨#[]⟩ : ByteArray), .int .i64 0, .int .i64 0, .string (⟨#[]⟩ : ByteArray), .int .i64 0] 26 (0, 0)) (z_37) NB172_0.out (z_12)); have n1_ := Aside0.mk (KeepBut.blk hk (g' := gb179) (o := .cells #[.string t173, .int .i64 x180001_6, .int .i64 x180002_6, .string x180003_6, .int .i64 (wrap64 (1 + t177))] 26 (0, 0)) (z_43) NB179_0.out (z_12)); have n2_ := Aside0.mk (KeepBut.trans (z_42) hk (.inl rfl)); have n3_ := Aside0.mk (hb); have n4_ := Aside0.mk (hi); clear BK172; clear BK179; clear HK; clear HB; clear HI0; have BK172 := n0_; have BK179 := n1_; have HK := n2_; have HB := n3_; have HI0 := n4_; clear n0_ n1_ n2_ n3_ n4_; (try clear hb); (try clear hb2); (try clear hk); (try clear hi); have hnb47 := NB179_172.out; have hnc47 := NB172_179.out; have hnb48 := NB179_0.out; have hnc48 := NB0_179.out; have hcz49_0 : w46.cell? ⟨gb179, 0, none⟩ = some (.string t173) := (blk_cell BK179.out 0).trans rfl; have hcz49_1 : w46.cell? ⟨gb179, 1, none⟩ = some (.int .i64 x180001_6) := (blk_cell BK179.out 1).trans rfl; have hcz49_2 : w46.cell? ⟨gb179, 2, none⟩ = some (.int .i64 x180002_6) := (blk_cell BK179.out 2).trans rfl; have hcz49_3 : w46.cell? ⟨gb179, 3, none⟩ = some (.string x180003_6) := (blk_cell BK179.out 3).trans rfl; have hcz49_4 : w46.cell? ⟨gb179, 4, none⟩ = some (.int .i64 (wrap64 (1 + t177))) := (blk_cell BK179.out 4).trans rfl; have hfz49_0 := blk_frozen BK179.out 0; have hfz49_1 := blk_frozen BK179.out 1; have hfz49_2 := blk_frozen BK179.out 2; have hfz49_3 := blk_frozen BK179.out 3; have hfz49_4 := blk_frozen BK179.out 4; have hnb50 := NB172_0.out; have hnc50 := NB0_172.out; have hcz51_0 : w46.cell? ⟨gb172, 0, none⟩ = some (.string (⟨#[]⟩ : ByteArray)) := (blk_cell BK172.out 0).trans rfl; have hcz51_1 : w46.cell? ⟨gb172, 1, none⟩ = some (.int .i64 0) := (blk_cell BK172.out 1).trans rfl; have hcz51_2 : w46.cell? ⟨gb172, 2, none⟩ = some (.int .i64 0) := (blk_cell BK172.out 2).trans rfl; have hcz51_3 : w46.cell? ⟨gb172, 3, none⟩ = some (.string (⟨#[]⟩ : ByteArray)) := (blk_cell BK172.out 3).trans rfl; have hcz51_4 : w46.cell? ⟨gb172, 4, none⟩ = some (.int .i64 0) := (blk_cell BK172.out 4).trans rfl; have hfz51_0 := blk_frozen BK172.out 0; have hfz51_1 := blk_frozen BK172.out 1; have hfz51_2 := blk_frozen BK172.out 2; have hfz51_3 := blk_frozen BK172.out 3; have hfz51_4 := blk_frozen BK172.out 4))
      refine bodyPost_ret (results_cell_row rfl _ _ gb172 26 #[.string t173, .int .i64 x180001_6, .int .i64 x180002_6, .string x180003_6, .int .i64 (wrap64 (t194 * 51))] (0, 0) _ rfl (by (with_reducible repeat (first | refine blk_drewN ?_ _ | refine blk_drew ?_ | refine blk_alloc ?_ _)); refine blk_put (cs := #[.string t173, .int .i64 x180001_6, .int .i64 x180002_6, .string x180003_6, .int .i64 0]) ?_ 4 _ rfl; (with_reducible repeat (first | refine blk_drewN ?_ _ | refine blk_drew ?_ | refine blk_alloc ?_ _)); refine blk_put (cs := #[.string t173, .int .i64 x180001_6, .int .i64 x180002_6, .string (⟨#[]⟩ : ByteArray), .int .i64 0]) ?_ 3 _ rfl; (with_reducible repeat (first | refine blk_drewN ?_ _ | refine blk_drew ?_ | refine blk_alloc ?_ _)); refine blk_put (cs := #[.string t173, .int .i64 x180001_6, .int .i64 0, .string (⟨#[]⟩ : ByteArray), .int .i64 0]) ?_ 2 _ rfl; (with_reducible repeat (first | refine blk_drewN ?_ _ | refine blk_drew ?_ | refine blk_alloc ?_ _)); refine blk_put (cs := #[.string t173, .int .i64 0, .int .i64 0, .string (⟨#[]⟩ : ByteArray), .int .i64 0]) ?_ 1 _ rfl; (with_reducible repeat (first | refine blk_drewN ?_ _ | refine blk_drew ?_ | refine blk_alloc ?_ _)); refine blk_put (cs := #[.string (⟨#[]⟩ : ByteArray), .int .i64 0, .int .i64 0, .string (⟨#[]⟩ : ByteArray), .int .i64 0]) ?_ 0 _ rfl; (with_reducible repeat (first | refine blk_drewN ?_ _ | refine blk_drew ?_ | refine blk_alloc ?_ _)); refine blk_far ?_ NB172_179.out _; (with_reducible repeat (first | refine blk_drewN ?_ _ | refine blk_drew ?_ | refine blk_alloc ?_ _)); exact BK172.out) Try.underlying26 rfl (z_0)) rfl ?_
      exact ⟨z_13, z_40, z_41, z_42⟩
     ·rw [if_neg c42] at H
      have c42b0 : (t186 == 1) = false := beq_eq_false_iff_ne.mpr c42
      have c42b1 : (t186 != 1) = true := bne_iff_ne.mpr c42
      by_cases c52 : t186 = 2
      ·rw [if_pos c52] at H
       have c52b0 : (t186 == 2) = true := beq_iff_eq.mpr c52
       have c52b1 : (t186 != 2) = false := bne_eq_false_iff_eq.mpr c52
       clear c52
       replace H := Option.bind_eq_some_iff.mp H
       obtain ⟨⟨t196, t197⟩, A530, H⟩ := H
       replace H : (some (t173, t196, x180002_6, x180003_6, (wrap64 (1 + t177)), t197)) = some (r1, r2, r3, r4, r5, r6) := H
       have A53 := Aside0.mk A530
       clear A530
       simp only [Option.some.injEq, Prod.mk.injEq] at H
       obtain ⟨rfl, rfl, rfl, rfl, rfl, rfl⟩ := H
       go_wp2_with (first | ((with_reducible refine gate_callee (f := 78) rfl ?_); refine goesL_ (some 24) rfl rfl Try.func78 (z_0) rfl #[.pointer (some ⟨g, 0, none⟩), .int .i64 a1] rfl (z_14) ?_; (with_reducible refine (spec_l20Rd_odd.calls kj6 g s0_0 x1001_6 a1 true t185 w0 _ ?side1 ?side2 A24.out).mono ?_); (case side1 => exact z_40); (case side2 => exact z_41); rintro e w54 ⟨rfl, hi, hb, hk⟩; refine ⟨_, rfl, ?_⟩; have n0_ := Aside0.mk (KeepBut.blk hk (g' := gb172) (o := .cells #[.string (⟨#[]⟩ : ByteArray), .int .i64 0, .int .i64 0, .string (⟨#[]⟩ : ByteArray), .int .i64 0] 26 (0, 0)) (z_37) NB172_0.out (z_12)); have n1_ := Aside0.mk (KeepBut.blk hk (g' := gb179) (o := .cells #[.string t173, .int .i64 x180001_6, .int .i64 x180002_6, .string x180003_6, .int .i64 (wrap64 (1 + t177))] 26 (0, 0)) (z_43) NB179_0.out (z_12)); have n2_ := Aside0.mk (KeepBut.trans (z_42) hk (.inl rfl)); have n3_ := Aside0.mk (hb); have n4_ := Aside0.mk (hi); clear BK172; clear BK179; clear HK; clear HB; clear HI0; have BK172 := n0_; have BK179 := n1_; have HK := n2_; have HB := n3_; have HI0 := n4_; clear n0_ n1_ n2_ n3_ n4_; (try clear hb); (try clear hb2); (try clear hk); (try clear hi)) | ((with_reducible refine gate_callee (f := 69) rfl ?_); refine goesL_ (some 26) rfl rfl Try.func69 (z_0) rfl #[.pointer (some ⟨g, 0, none⟩), .int .i64 4] rfl (z_14) ?_; (with_reducible refine (spec_l20Rd_pick.calls kj6 g s0_0 t185 4 t186 t187 w0 _ ?side1 ?side2 A26.out).mono ?_); (case side1 => exact z_40); (case side2 => exact z_41); rintro e w55 ⟨rfl, hi, hb, hk⟩; refine ⟨_, rfl, ?_⟩; have n0_ := Aside0.mk (KeepBut.blk hk (g' := gb172) (o := .cells #[.string (⟨#[]⟩ : ByteArray), .int .i64 0, .int .i64 0, .string (⟨#[]⟩ : ByteArray), .int .i64 0] 26 (0, 0)) (z_37) NB172_0.out (z_12)); have n1_ := Aside0.mk (KeepBut.blk hk (g' := gb179) (o := .cells #[.string t173, .int .i64 x180001_6, .int .i64 x180002_6, .string x180003_6, .int .i64 (wrap64 (1 + t177))] 26 (0, 0)) (z_43) NB179_0.out (z_12)); have n2_ := Aside0.mk (KeepBut.trans (z_42) hk (.inl rfl)); have n3_ := Aside0.mk (hb); have n4_ := Aside0.mk (hi); clear BK172; clear BK179; clear HK; clear HB; clear HI0; have BK172 := n0_; have BK179 := n1_; have HK := n2_; have HB := n3_; have HI0 := n4_; clear n0_ n1_ n2_ n3_ n4_; (try clear hb); (try clear hb2); (try clear hk); (try clear hi)) | ((with_reducible refine gate_callee (f := 69) rfl ?_); refine goesL_ (some 45) rfl rfl Try.func69 (z_0) rfl #[.pointer (some ⟨g, 0, none⟩), .int .i64 5] rfl (z_14) ?_; (with_reducible refine (spec_l20Rd_pick.calls kj6 g s0_0 t187 5 t196 t197 w0 _ ?side1 ?side2 A53.out).mono ?_); (case side1 => exact z_40); (case side2 => exact z_41); rintro e w56 ⟨rfl, hi, hb, hk⟩; refine ⟨_, rfl, ?_⟩; have n0_ := Aside0.mk (KeepBut.blk hk (g' := gb172) (o := .cells #[.string (⟨#[]⟩ : ByteArray), .int .i64 0, .int .i64 0, .string (⟨#[]⟩ : ByteArray), .int .i64 0] 26 (0, 0)) (z_37) NB172_0.out (z_12)); have n1_ := Aside0.mk (KeepBut.blk hk (g' := gb179) (o := .cells #[.string t173, .int .i64 x180001_6, .int .i64 x180002_6, .string x180003_6, .int .i64 (wrap64 (1 + t177))] 26 (0, 0)) (z_43) NB179_0.out (z_12)); have n2_ := Aside0.mk (KeepBut.trans (z_42) hk (.inl rfl)); have n3_ := Aside0.mk (hb); have n4_ := Aside0.mk (hi); clear BK172; clear BK179; clear HK; clear HB; clear HI0; have BK172 := n0_; have BK179 := n1_; have HK := n2_; have HB := n3_; have HI0 := n4_; clear n0_ n1_ n2_ n3_ n4_; (try clear hb); (try clear hb2); (try clear hk); (try clear hi); have hnb57 := NB179_172.out; have hnc57 := NB172_179.out; have hnb58 := NB179_0.out; have hnc58 := NB0_179.out; have hcz59_0 : w56.cell? ⟨gb179, 0, none⟩ = some (.string t173) := (blk_cell BK179.out 0).trans rfl; have hcz59_1 : w56.cell? ⟨gb179, 1, none⟩ = some (.int .i64 x180001_6) := (blk_cell BK179.out 1).trans rfl; have hcz59_2 : w56.cell? ⟨gb179, 2, none⟩ = some (.int .i64 x180002_6) := (blk_cell BK179.out 2).trans rfl; have hcz59_3 : w56.cell? ⟨gb179, 3, none⟩ = some (.string x180003_6) := (blk_cell BK179.out 3).trans rfl; have hcz59_4 : w56.cell? ⟨gb179, 4, none⟩ = some (.int .i64 (wrap64 (1 + t177))) := (blk_cell BK179.out 4).trans rfl; have hfz59_0 := blk_frozen BK179.out 0; have hfz59_1 := blk_frozen BK179.out 1; have hfz59_2 := blk_frozen BK179.out 2; have hfz59_3 := blk_frozen BK179.out 3; have hfz59_4 := blk_frozen BK179.out 4; have hnb60 := NB172_0.out; have hnc60 := NB0_172.out; have hcz61_0 : w56.cell? ⟨gb172, 0, none⟩ = some (.string (⟨#[]⟩ : ByteArray)) := (blk_cell BK172.out 0).trans rfl; have hcz61_1 : w56.cell? ⟨gb172, 1, none⟩ = some (.int .i64 0) := (blk_cell BK172.out 1).trans rfl; have hcz61_2 : w56.cell? ⟨gb172, 2, none⟩ = some (.int .i64 0) := (blk_cell BK172.out 2).trans rfl; have hcz61_3 : w56.cell? ⟨gb172, 3, none⟩ = some (.string (⟨#[]⟩ : ByteArray)) := (blk_cell BK172.out 3).trans rfl; have hcz61_4 : w56.cell? ⟨gb172, 4, none⟩ = some (.int .i64 0) := (blk_cell BK172.out 4).trans rfl; have hfz61_0 := blk_frozen BK172.out 0; have hfz61_1 := blk_frozen BK172.out 1; have hfz61_2 := blk_frozen BK172.out 2; have hfz61_3 := blk_frozen BK172.out 3; have hfz61_4 := blk_frozen BK172.out 4))
       refine bodyPost_ret (results_cell_row rfl _ _ gb172 26 #[.string t173, .int .i64 t196, .int .i64 x180002_6, .string x180003_6, .int .i64 (wrap64 (1 + t177))] (0, 0) _ rfl (by (with_reducible repeat (first | refine blk_drewN ?_ _ | refine blk_drew ?_ | refine blk_alloc ?_ _)); refine blk_put (cs := #[.string t173, .int .i64 t196, .int .i64 x180002_6, .string x180003_6, .int .i64 0]) ?_ 4 _ rfl; (with_reducible repeat (first | refine blk_drewN ?_ _ | refine blk_drew ?_ | refine blk_alloc ?_ _)); refine blk_put (cs := #[.string t173, .int .i64 t196, .int .i64 x180002_6, .string (⟨#[]⟩ : ByteArray), .int .i64 0]) ?_ 3 _ rfl; (with_reducible repeat (first | refine blk_drewN ?_ _ | refine blk_drew ?_ | refine blk_alloc ?_ _)); refine blk_put (cs := #[.string t173, .int .i64 t196, .int .i64 0, .string (⟨#[]⟩ : ByteArray), .int .i64 0]) ?_ 2 _ rfl; (with_reducible repeat (first | refine blk_drewN ?_ _ | refine blk_drew ?_ | refine blk_alloc ?_ _)); refine blk_put (cs := #[.string t173, .int .i64 0, .int .i64 0, .string (⟨#[]⟩ : ByteArray), .int .i64 0]) ?_ 1 _ rfl; (with_reducible repeat (first | refine blk_drewN ?_ _ | refine blk_drew ?_ | refine blk_alloc ?_ _)); refine blk_put (cs := #[.string (⟨#[]⟩ : ByteArray), .int .i64 0, .int .i64 0, .string (⟨#[]⟩ : ByteArray), .int .i64 0]) ?_ 0 _ rfl; (with_reducible repeat (first | refine blk_drewN ?_ _ | refine blk_drew ?_ | refine blk_alloc ?_ _)); refine blk_far ?_ NB172_179.out _; (with_reducible repeat (first | refine blk_drewN ?_ _ | refine blk_drew ?_ | refine blk_alloc ?_ _)); exact BK172.out) Try.underlying26 rfl (z_0)) rfl ?_
       exact ⟨z_13, z_40, z_41, z_42⟩
      ·rw [if_neg c52] at H
       have c52b0 : (t186 == 2) = false := beq_eq_false_iff_ne.mpr c52
       have c52b1 : (t186 != 2) = true := bne_iff_ne.mpr c52
       simp only [Option.some.injEq, Prod.mk.injEq] at H
       obtain ⟨rfl, rfl, rfl, rfl, rfl, rfl⟩ := H
       go_wp2_with (first | ((with_reducible refine gate_callee (f := 78) rfl ?_); refine goesL_ (some 24) rfl rfl Try.func78 (z_0) rfl #[.pointer (some ⟨g, 0, none⟩), .int .i64 a1] rfl (z_14) ?_; (with_reducible refine (spec_l20Rd_odd.calls kj6 g s0_0 x1001_6 a1 true t185 w0 _ ?side1 ?side2 A24.out).mono ?_); (case side1 => exact z_40); (case side2 => exact z_41); rintro e w62 ⟨rfl, hi, hb, hk⟩; refine ⟨_, rfl, ?_⟩; have n0_ := Aside0.mk (KeepBut.blk hk (g' := gb172) (o := .cells #[.string (⟨#[]⟩ : ByteArray), .int .i64 0, .int .i64 0, .string (⟨#[]⟩ : ByteArray), .int .i64 0] 26 (0, 0)) (z_37) NB172_0.out (z_12)); have n1_ := Aside0.mk (KeepBut.blk hk (g' := gb179) (o := .cells #[.string t173, .int .i64 x180001_6, .int .i64 x180002_6, .string x180003_6, .int .i64 (wrap64 (1 + t177))] 26 (0, 0)) (z_43) NB179_0.out (z_12)); have n2_ := Aside0.mk (KeepBut.trans (z_42) hk (.inl rfl)); have n3_ := Aside0.mk (hb); have n4_ := Aside0.mk (hi); clear BK172; clear BK179; clear HK; clear HB; clear HI0; have BK172 := n0_; have BK179 := n1_; have HK := n2_; have HB := n3_; have HI0 := n4_; clear n0_ n1_ n2_ n3_ n4_; (try clear hb); (try clear hb2); (try clear hk); (try clear hi)) | ((with_reducible refine gate_callee (f := 69) rfl ?_); refine goesL_ (some 26) rfl rfl Try.func69 (z_0) rfl #[.pointer (some ⟨g, 0, none⟩), .int .i64 4] rfl (z_14) ?_; (with_reducible refine (spec_l20Rd_pick.calls kj6 g s0_0 t185 4 t186 t187 w0 _ ?side1 ?side2 A26.out).mono ?_); (case side1 => exact z_40); (case side2 => exact z_41); rintro e w63 ⟨rfl, hi, hb, hk⟩; refine ⟨_, rfl, ?_⟩; have n0_ := Aside0.mk (KeepBut.blk hk (g' := gb172) (o := .cells #[.string (⟨#[]⟩ : ByteArray), .int .i64 0, .int .i64 0, .string (⟨#[]⟩ : ByteArray), .int .i64 0] 26 (0, 0)) (z_37) NB172_0.out (z_12)); have n1_ := Aside0.mk (KeepBut.blk hk (g' := gb179) (o := .cells #[.string t173, .int .i64 x180001_6, .int .i64 x180002_6, .string x180003_6, .int .i64 (wrap64 (1 + t177))] 26 (0, 0)) (z_43) NB179_0.out (z_12)); have n2_ := Aside0.mk (KeepBut.trans (z_42) hk (.inl rfl)); have n3_ := Aside0.mk (hb); have n4_ := Aside0.mk (hi); clear BK172; clear BK179; clear HK; clear HB; clear HI0; have BK172 := n0_; have BK179 := n1_; have HK := n2_; have HB := n3_; have HI0 := n4_; clear n0_ n1_ n2_ n3_ n4_; (try clear hb); (try clear hb2); (try clear hk); (try clear hi); have hnb64 := NB179_172.out; have hnc64 := NB172_179.out; have hnb65 := NB179_0.out; have hnc65 := NB0_179.out; have hcz66_0 : w63.cell? ⟨gb179, 0, none⟩ = some (.string t173) := (blk_cell BK179.out 0).trans rfl; have hcz66_1 : w63.cell? ⟨gb179, 1, none⟩ = some (.int .i64 x180001_6) := (blk_cell BK179.out 1).trans rfl; have hcz66_2 : w63.cell? ⟨gb179, 2, none⟩ = some (.int .i64 x180002_6) := (blk_cell BK179.out 2).trans rfl; have hcz66_3 : w63.cell? ⟨gb179, 3, none⟩ = some (.string x180003_6) := (blk_cell BK179.out 3).trans rfl; have hcz66_4 : w63.cell? ⟨gb179, 4, none⟩ = some (.int .i64 (wrap64 (1 + t177))) := (blk_cell BK179.out 4).trans rfl; have hfz66_0 := blk_frozen BK179.out 0; have hfz66_1 := blk_frozen BK179.out 1; have hfz66_2 := blk_frozen BK179.out 2; have hfz66_3 := blk_frozen BK179.out 3; have hfz66_4 := blk_frozen BK179.out 4; have hnb67 := NB172_0.out; have hnc67 := NB0_172.out; have hcz68_0 : w63.cell? ⟨gb172, 0, none⟩ = some (.string (⟨#[]⟩ : ByteArray)) := (blk_cell BK172.out 0).trans rfl; have hcz68_1 : w63.cell? ⟨gb172, 1, none⟩ = some (.int .i64 0) := (blk_cell BK172.out 1).trans rfl; have hcz68_2 : w63.cell? ⟨gb172, 2, none⟩ = some (.int .i64 0) := (blk_cell BK172.out 2).trans rfl; have hcz68_3 : w63.cell? ⟨gb172, 3, none⟩ = some (.string (⟨#[]⟩ : ByteArray)) := (blk_cell BK172.out 3).trans rfl; have hcz68_4 : w63.cell? ⟨gb172, 4, none⟩ = some (.int .i64 0) := (blk_cell BK172.out 4).trans rfl; have hfz68_0 := blk_frozen BK172.out 0; have hfz68_1 := blk_frozen BK172.out 1; have hfz68_2 := blk_frozen BK172.out 2; have hfz68_3 := blk_frozen BK172.out 3; have hfz68_4 := blk_frozen BK172.out 4))
       refine bodyPost_ret (results_cell_row rfl _ _ gb172 26 #[.string t173, .int .i64 x180001_6, .int .i64 x180002_6, .string (⟨#[120, 32, 121]⟩ : ByteArray), .int .i64 (wrap64 (1 + t177))] (0, 0) _ rfl (by (with_reducible repeat (first | refine blk_drewN ?_ _ | refine blk_drew ?_ | refine blk_alloc ?_ _)); refine blk_put (cs := #[.string t173, .int .i64 x180001_6, .int .i64 x180002_6, .string (⟨#[120, 32, 121]⟩ : ByteArray), .int .i64 0]) ?_ 4 _ rfl; (with_reducible repeat (first | refine blk_drewN ?_ _ | refine blk_drew ?_ | refine blk_alloc ?_ _)); refine blk_put (cs := #[.string t173, .int .i64 x180001_6, .int .i64 x180002_6, .string (⟨#[]⟩ : ByteArray), .int .i64 0]) ?_ 3 _ rfl; (with_reducible repeat (first | refine blk_drewN ?_ _ | refine blk_drew ?_ | refine blk_alloc ?_ _)); refine blk_put (cs := #[.string t173, .int .i64 x180001_6, .int .i64 0, .string (⟨#[]⟩ : ByteArray), .int .i64 0]) ?_ 2 _ rfl; (with_reducible repeat (first | refine blk_drewN ?_ _ | refine blk_drew ?_ | refine blk_alloc ?_ _)); refine blk_put (cs := #[.string t173, .int .i64 0, .int .i64 0, .string (⟨#[]⟩ : ByteArray), .int .i64 0]) ?_ 1 _ rfl; (with_reducible repeat (first | refine blk_drewN ?_ _ | refine blk_drew ?_ | refine blk_alloc ?_ _)); refine blk_put (cs := #[.string (⟨#[]⟩ : ByteArray), .int .i64 0, .int .i64 0, .string (⟨#[]⟩ : ByteArray), .int .i64 0]) ?_ 0 _ rfl; (with_reducible repeat (first | refine blk_drewN ?_ _ | refine blk_drew ?_ | refine blk_alloc ?_ _)); refine blk_far ?_ NB172_179.out _; (with_reducible repeat (first | refine blk_drewN ?_ _ | refine blk_drew ?_ | refine blk_alloc ?_ _)); exact BK172.out) Try.underlying26 rfl (z_0)) rfl ?_
       exact ⟨z_13, z_40, z_41, z_42⟩
   ·replace c25 := Bool.eq_false_iff.mpr c25
    subst c25
    rw [if_neg (show ¬ (false = true) by decide)] at H
    simp only [Option.some.injEq, Prod.mk.injEq] at H
    obtain ⟨rfl, rfl, rfl, rfl, rfl, rfl⟩ := H
    go_wp2_with (first | ((with_reducible refine gate_callee (f := 78) rfl ?_); refine goesL_ (some 24) rfl rfl Try.func78 (z_0) rfl #[.pointer (some ⟨g, 0, none⟩), .int .i64 a1] rfl (z_14) ?_; (with_reducible refine (spec_l20Rd_odd.calls kj6 g s0_0 x1001_6 a1 false t185 w0 _ ?side1 ?side2 A24.out).mono ?_); (case side1 => exact z_40); (case side2 => exact z_41); rintro e w69 ⟨rfl, hi, hb, hk⟩; refine ⟨_, rfl, ?_⟩; have n0_ := Aside0.mk (KeepBut.blk hk (g' := gb172) (o := .cells #[.string (⟨#[]⟩ : ByteArray), .int .i64 0, .int .i64 0, .string (⟨#[]⟩ : ByteArray), .int .i64 0] 26 (0, 0)) (z_37) NB172_0.out (z_12)); have n1_ := Aside0.mk (KeepBut.blk hk (g' := gb179) (o := .cells #[.string t173, .int .i64 x180001_6, .int .i64 x180002_6, .string x180003_6, .int .i64 (wrap64 (1 + t177))] 26 (0, 0)) (z_43) NB179_0.out (z_12)); have n2_ := Aside0.mk (KeepBut.trans (z_42) hk (.inl rfl)); have n3_ := Aside0.mk (hb); have n4_ := Aside0.mk (hi); clear BK172; clear BK179; clear HK; clear HB; clear HI0; have BK172 := n0_; have BK179 := n1_; have HK := n2_; have HB := n3_; have HI0 := n4_; clear n0_ n1_ n2_ n3_ n4_; (try clear hb); (try clear hb2); (try clear hk); (try clear hi); have hnb70 := NB179_172.out; have hnc70 := NB172_179.out; have hnb71 := NB179_0.out; have hnc71 := NB0_179.out; have hcz72_0 : w69.cell? ⟨gb179, 0, none⟩ = some (.string t173) := (blk_cell BK179.out 0).trans rfl; have hcz72_1 : w69.cell? ⟨gb179, 1, none⟩ = some (.int .i64 x180001_6) := (blk_cell BK179.out 1).trans rfl; have hcz72_2 : w69.cell? ⟨gb179, 2, none⟩ = some (.int .i64 x180002_6) := (blk_cell BK179.out 2).trans rfl; have hcz72_3 : w69.cell? ⟨gb179, 3, none⟩ = some (.string x180003_6) := (blk_cell BK179.out 3).trans rfl; have hcz72_4 : w69.cell? ⟨gb179, 4, none⟩ = some (.int .i64 (wrap64 (1 + t177))) := (blk_cell BK179.out 4).trans rfl; have hfz72_0 := blk_frozen BK179.out 0; have hfz72_1 := blk_frozen BK179.out 1; have hfz72_2 := blk_frozen BK179.out 2; have hfz72_3 := blk_frozen BK179.out 3; have hfz72_4 := blk_frozen BK179.out 4; have hnb73 := NB172_0.out; have hnc73 := NB0_172.out; have hcz74_0 : w69.cell? ⟨gb172, 0, none⟩ = some (.string (⟨#[]⟩ : ByteArray)) := (blk_cell BK172.out 0).trans rfl; have hcz74_1 : w69.cell? ⟨gb172, 1, none⟩ = some (.int .i64 0) := (blk_cell BK172.out 1).trans rfl; have hcz74_2 : w69.cell? ⟨gb172, 2, none⟩ = some (.int .i64 0) := (blk_cell BK172.out 2).trans rfl; have hcz74_3 : w69.cell? ⟨gb172, 3, none⟩ = some (.string (⟨#[]⟩ : ByteArray)) := (blk_cell BK172.out 3).trans rfl; have hcz74_4 : w69.cell? ⟨gb172, 4, none⟩ = some (.int .i64 0) := (blk_cell BK172.out 4).trans rfl; have hfz74_0 := blk_frozen BK172.out 0; have hfz74_1 := blk_frozen BK172.out 1; have hfz74_2 := blk_frozen BK172.out 2; have hfz74_3 := blk_frozen BK172.out 3; have hfz74_4 := blk_frozen BK172.out 4))
    refine bodyPost_ret (results_cell_row rfl _ _ gb172 26 #[.string t173, .int .i64 x180001_6, .int .i64 x180002_6, .string x180003_6, .int .i64 (wrap64 (1 + t177))] (0, 0) _ rfl (by (with_reducible repeat (first | refine blk_drewN ?_ _ | refine blk_drew ?_ | refine blk_alloc ?_ _)); refine blk_put (cs := #[.string t173, .int .i64 x180001_6, .int .i64 x180002_6, .string x180003_6, .int .i64 0]) ?_ 4 _ rfl; (with_reducible repeat (first | refine blk_drewN ?_ _ | refine blk_drew ?_ | refine blk_alloc ?_ _)); refine blk_put (cs := #[.string t173, .int .i64 x180001_6, .int .i64 x180002_6, .string (⟨#[]⟩ : ByteArray), .int .i64 0]) ?_ 3 _ rfl; (with_reducible repeat (first | refine blk_drewN ?_ _ | refine blk_drew ?_ | refine blk_alloc ?_ _)); refine blk_put (cs := #[.string t173, .int .i64 x180001_6, .int .i64 0, .string (⟨#[]⟩ : ByteArray), .int .i64 0]) ?_ 2 _ rfl; (with_reducible repeat (first | refine blk_drewN ?_ _ | refine blk_drew ?_ | refine blk_alloc ?_ _)); refine blk_put (cs := #[.string t173, .int .i64 0, .int .i64 0, .string (⟨#[]⟩ : ByteArray), .int .i64 0]) ?_ 1 _ rfl; (with_reducible repeat (first | refine blk_drewN ?_ _ | refine blk_drew ?_ | refine blk_alloc ?_ _)); refine blk_put (cs := #[.string (⟨#[]⟩ : ByteArray), .int .i64 0, .int .i64 0, .string (⟨#[]⟩ : ByteArray), .int .i64 0]) ?_ 0 _ rfl; (with_reducible repeat (first | refine blk_drewN ?_ _ | refine blk_drew ?_ | refine blk_alloc ?_ _)); exact BK172.out) Try.underlying26 rfl (z_0)) rfl ?_
    exact ⟨z_13, z_40, z_41, z_42⟩

/-! ### spec_l20Names: function 62 -/
def spec_l20Names.l0 : Nat → Int → List (S26) → List ByteArray → Int → Int → List Int → Int → Option ((List (S26)) × Int)
 | 0, _, _, _, _, _, _, _ => none
 | k + 1, x1, x5, x10, x11, x12, x1000, x1001 => if x12 < x11 then (if 0 ≤ x12 then (if x12 < (x10.length : Int) then ((spec_l20Rd_pick.f k x1000 x1001 3).bind fun bt205 => (if bt205.1 > 0 then ((spec_l20Name.f k x1000 bt205.2 0).bind fun bt207 => (if x5.length < 2513169434916 then (spec_l20Names.l0 k x1 (x5 ++ [(⟨rdOf ByteArray.empty x10 x12, bt207.2.1, bt207.2.2.1, bt207.2.2.2.1, bt207.2.2.2.2.1⟩ : S26)]) x10 x11 (wrap64 (x12 + 1)) x1000 bt207.2.2.2.2.2) else (none))) else (spec_l20Names.l0 k x1 x5 x10 x11 (wrap64 (x12 + 1)) x1000 bt205.2))) else (none)) else (none)) else ((spec_l20Rd_odd.f k x1000 x1001 x1).bind fun bt217 => (if bt217.1 = true then ((spec_l20Name.f k x1000 bt217.2 1).bind fun bt219 => (if x5.length < 2513169434916 then (some ((x5 ++ [(⟨bt219.1, bt219.2.1, bt219.2.2.1, bt219.2.2.2.1, bt219.2.2.2.2.1⟩ : S26)]), bt219.2.2.2.2.2)) else (none))) else (some (x5, bt217.2))))
def spec_l20Names.f (k : Nat) (s0_0 : List Int) (s0_1 : Int) (a1 : Int) : Option ((List (S26)) × Int) := (some (([(⟨#[97]⟩ : ByteArray), (⟨#[98]⟩ : ByteArray), (⟨#[99]⟩ : ByteArray), (⟨#[100, 100]⟩ : ByteArray), (⟨#[101, 101]⟩ : ByteArray), (⟨#[102]⟩ : ByteArray), (⟨#[103, 103]⟩ : ByteArray)] : List ByteArray) : List ByteArray)).bind fun y201 => (spec_l20Names.l0 k a1 (([] : List (S26))) y201 (y201.length : Int) 0 s0_0 s0_1)
theorem spec_l20Names.mono_l : ∀ k, (∀ y0 y1 y2 y3 y4 y5 y6, LeO (spec_l20Names.l0 k y0 y1 y2 y3 y4 y5 y6) (spec_l20Names.l0 (k + 1) y0 y1 y2 y3 y4 y5 y6))
 | 0 => fun _ _ _ _ _ _ _ r h => by simp [spec_l20Names.l0] at h
 | k + 1 => by
  have ih0 := spec_l20Names.mono_l k
  ·intro y0 y1 y2 y3 y4 y5 y6
   unfold spec_l20Names.l0
   repeat' first
   | (with_reducible exact ih0 _ _ _ _ _ _ _)
   | (with_reducible exact spec_l20Name.mono _ _ _ _)
   | (with_reducible exact spec_l20Rd_odd.mono _ _ _ _)
   | (with_reducible exact spec_l20Rd_pick.mono _ _ _ _)
   | (with_reducible exact LeO.refl _)
   | (with_reducible exact LeO.none _)
   | (with_reducible refine LeO.ite ?_ ?_)
   | (with_reducible refine LeO.bind ?_ (fun _ => ?_))
   | exact ih0 _ _ _ _ _ _ _
   | exact spec_l20Name.mono _ _ _ _
   | exact spec_l20Rd_odd.mono _ _ _ _
   | exact spec_l20Rd_pick.mono _ _ _ _
   | exact LeO.none _
   | refine LeO.ite ?_ ?_
   | refine LeO.bind ?_ (fun _ => ?_)
theorem spec_l20Names.mono : ∀ a0 a1 a2 k, LeO (spec_l20Names.f k a0 a1 a2) (spec_l20Names.f (k + 1) a0 a1 a2) := by
 intro a0 a1 a2 k
 have ih0 := spec_l20Names.mono_l k
 unfold spec_l20Names.f
 repeat' first
   | (with_reducible exact ih0 _ _ _ _ _ _ _)
   | (with_reducible exact spec_l20Name.mono _ _ _ _)
   | (with_reducible exact spec_l20Rd_odd.mono _ _ _ _)
   | (with_reducible exact spec_l20Rd_pick.mono _ _ _ _)
   | (with_reducible exact LeO.refl _)
   | (with_reducible exact LeO.none _)
   | (with_reducible refine LeO.ite ?_ ?_)
   | (with_reducible refine LeO.bind ?_ (fun _ => ?_))
   | exact ih0 _ _ _ _ _ _ _
   | exact spec_l20Name.mono _ _ _ _
   | exact spec_l20Rd_odd.mono _ _ _ _
   | exact spec_l20Rd_pick.mono _ _ _ _
   | exact LeO.none _
   | refine LeO.ite ?_ ?_
   | refine LeO.bind ?_ (fun _ => ?_)
set_option maxHeartbeats 8000000 in
set_option maxRecDepth 100000 in
theorem spec_l20Names.calls (k : Nat) (g : Nat) (s0_0 : List Int) (s0_1 : Int) (a1 : Int) (r1 : List (S26)) (r2 : Int) (w0 w : World) (hI : IsS96 w0 w g s0_0 s0_1) (hB : Below w0.heap.size w0 w) (h : spec_l20Names.f k s0_0 s0_1 a1 = some (r1, r2)) :
  Calls Try.prog 62 #[.pointer (some ⟨g, 0, none⟩), .int .i64 a1] w fun e w' => ∃ v0_ : Value, e = .returned (v0_) ∧ Kd.R k26 26 w' w.heap.size (fun _ => True) v0_ r1 ∧ IsS96 w0 w' g s0_0 r2 ∧ Below w0.heap.size w0 w' ∧ KeepBut w w' g none := by
 have hu26 := Try.underlying26
 have HI0 := Aside0.mk hI
 have HK := Aside0.mk (KeepBut.refl w g none)
 have HL := Aside0.mk hB.size
 clear hI
 have HW0 := Aside0.mk hB.size
 have HB := Aside0.mk hB
 clear hB
 have H : ((some (([(⟨#[97]⟩ : ByteArray), (⟨#[98]⟩ : ByteArray), (⟨#[99]⟩ : ByteArray), (⟨#[100, 100]⟩ : ByteArray), (⟨#[101, 101]⟩ : ByteArray), (⟨#[102]⟩ : ByteArray), (⟨#[103, 103]⟩ : ByteArray)] : List ByteArray) : List ByteArray)).bind fun y201 => (spec_l20Names.l0 k a1 (([] : List (S26))) y201 (y201.length : Int) 0 s0_0 s0_1)) = some (r1, r2) := h
 clear h
 obtain ⟨y198, hy198⟩ : ∃ y_ : List (S26), y_ = (([] : List (S26))) := ⟨_, rfl⟩
 replace H : ((some (([(⟨#[97]⟩ : ByteArray), (⟨#[98]⟩ : ByteArray), (⟨#[99]⟩ : ByteArray), (⟨#[100, 100]⟩ : ByteArray), (⟨#[101, 101]⟩ : ByteArray), (⟨#[102]⟩ : ByteArray), (⟨#[103, 103]⟩ : ByteArray)] : List ByteArray) : List ByteArray)).bind fun y201 => (spec_l20Names.l0 k a1 y198 y201 (y201.length : Int) 0 s0_0 s0_1)) = some (r1, r2) := by first | (rw [hy198]; with_reducible exact H) | (have H2_ := (Option.bind_some _ _).symm.trans H; rw [hy198]; with_reducible exact H2_) | (have H2_ := (Option.bind_some _ _).symm.trans H; with_reducible exact H2_) | with_reducible exact H | (rw [hy198]; exact H) | exact H
 have Ny198 := Aside0.mk hy198
 clear hy198
 obtain ⟨y201, hy201⟩ : ∃ y_ : List ByteArray, y_ = (([(⟨#[97]⟩ : ByteArray), (⟨#[98]⟩ : ByteArray), (⟨#[99]⟩ : ByteArray), (⟨#[100, 100]⟩ : ByteArray), (⟨#[101, 101]⟩ : ByteArray), (⟨#[102]⟩ : ByteArray), (⟨#[103, 103]⟩ : ByteArray)] : List ByteArray)) := ⟨_, rfl⟩
 replace H : (spec_l20Names.l0 k a1 y198 y201 (y201.length : Int) 0 s0_0 s0_1) = some (r1, r2) := by first | (rw [hy201]; with_reducible exact H) | (have H2_ := (Option.bind_some _ _).symm.trans H; rw [hy201]; with_reducible exact H2_) | (have H2_ := (Option.bind_some _ _).symm.trans H; with_reducible exact H2_) | with_reducible exact H | (rw [hy201]; exact H) | exact H
 have Ny201 := Aside0.mk hy201
 clear hy201
 have H' := Aside0.mk H
 clear H
 go_enter Try.func62, Try.ntmps62
 go_wp2_with (first | ((with_reducible refine gate_dst (N := 9) rfl ?_); refine Kd.R_lit k26 _ 26 ?hg (N := 9) ?hd (xs := ([] : List (S26))) (inner := []) (ok := fun _ => True) (okp := fun _ => True) ?hr ?hp (fun _ hk => hk) trivial (Below.refl _ _) (Nat.le_refl _) (z_12) ?_; (case hd => rfl); (case hg => rfl); (case hr => exact z_9); (case hp => exact z_44); intro v199 w3 ho4 hb hg_ hnew_; clear hg_ hnew_; (first | rw [← Ny198.out] at ho4 | (simp only [Int.reduceToNat] at ho4; rw [← Ny198.out] at ho4)); have n0_ := Aside0.mk (Kd.R_lower ho4 (keep_size (w := w) (g := g) (row := none) (z_31))); have n1_ := Aside0.mk (IsS96.below (z_32) hb); have n2_ := Aside0.mk (KeepBut.trans (z_31) (KeepBut.of_below hb g none) (.inl rfl)); have n3_ := Aside0.mk (below_step (z_33) hb); clear HI0; clear HK; clear HB; have HO200 := n0_; have HI0 := n1_; have HK := n2_; have HB := n3_; clear n0_ n1_ n2_ n3_; clear hb ho4) | ((with_reducible refine gate_dst (N := 10) rfl ?_); refine Kd.R_lit Kd.string _ 9 ?hg (N := 10) ?hd (xs := ([(⟨#[97]⟩ : ByteArray), (⟨#[98]⟩ : ByteArray), (⟨#[99]⟩ : ByteArray), (⟨#[100, 100]⟩ : ByteArray), (⟨#[101, 101]⟩ : ByteArray), (⟨#[102]⟩ : ByteArray), (⟨#[103, 103]⟩ : ByteArray)] : List ByteArray)) (inner := [.string (⟨#[97]⟩ : ByteArray), .string (⟨#[98]⟩ : ByteArray), .string (⟨#[99]⟩ : ByteArray), .string (⟨#[100, 100]⟩ : ByteArray), .string (⟨#[101, 101]⟩ : ByteArray), .string (⟨#[102]⟩ : ByteArray), .string (⟨#[103, 103]⟩ : ByteArray)]) (ok := fun _ => True) (okp := fun _ => True) ?hr ?hp (fun _ hk => hk) trivial (Below.refl _ _) (Nat.le_refl _) (z_12) ?_; (case hd => rfl); (case hg => rfl); (case hr => exact z_9); (case hp => exact (Reps.one (show Kd.M Kd.string _ _ _ (⟨#[97]⟩ : ByteArray) [.string (⟨#[97]⟩ : ByteArray)] from rfl) (Reps.one (show Kd.M Kd.string _ _ _ (⟨#[98]⟩ : ByteArray) [.string (⟨#[98]⟩ : ByteArray)] from rfl) (Reps.one (show Kd.M Kd.string _ _ _ (⟨#[99]⟩ : ByteArray) [.string (⟨#[99]⟩ : ByteArray)] from rfl) (Reps.one (show Kd.M Kd.string _ _ _ (⟨#[100, 100]⟩ : ByteArray) [.string (⟨#[100, 100]⟩ : ByteArray)] from rfl) (Reps.one (show Kd.M Kd.string _ _ _ (⟨#[101, 101]⟩ : ByteArray) [.string (⟨#[101, 101]⟩ : ByteArray)] from rfl) (Reps.one (show Kd.M Kd.string _ _ _ (⟨#[102]⟩ : ByteArray) [.string (⟨#[102]⟩ : ByteArray)] from rfl) (Reps.one (show Kd.M Kd.string _ _ _ (⟨#[103, 103]⟩ : ByteArray) [.string (⟨#[103, 103]⟩ : ByteArray)] from rfl) (Reps.none _ _))))))))); intro v202 w5 ho6 hb hg_ hnew_; clear hg_ hnew_; (first | rw [← Ny201.out] at ho6 | (simp only [Int.reduceToNat] at ho6; rw [← Ny201.out] at ho6)); have n0_ := Aside0.mk (Kd.R_below (z_45) hb); have n1_ := Aside0.mk (Kd.R_lower ho6 (keep_size (w := w) (g := g) (row := none) (z_31))); have n2_ := Aside0.mk (IsS96.below (z_32) hb); have n3_ := Aside0.mk (KeepBut.trans (z_31) (KeepBut.of_below hb g none) (.inl rfl)); have n4_ := Aside0.mk (below_step (z_33) hb); clear HO200; clear HI0; clear HK; clear HB; have HO200 := n0_; have HO203 := n1_; have HI0 := n2_; have HK := n3_; have HB := n4_; clear n0_ n1_ n2_ n3_ n4_; clear hb ho6; obtain ⟨Ao7, co7, eo7⟩ := Kd.R_slice HO203.out; subst eo7))
 go_loopg [5, 12] k (fun kq v5 v12 w' => ∃ (x5_1 : List (S26)) (x12_1 : Int) (x1001_1 : Int), v12 = .int .i64 x12_1 ∧ Aside0 (spec_l20Names.l0 kq a1 x5_1 y201 (y201.length : Int) x12_1 s0_0 x1001_1 = some (r1, r2)) ∧ Aside0 (kq ≤ k) ∧ Aside0 (Kd.R k26 26 w' w.heap.size (fun _ => True) v5 x5_1) ∧ Aside0 (Kd.R Kd.string 9 w' w.heap.size (fun _ => True) (.slice Ao7 y201.length co7) y201) ∧ Aside0 (IsS96 w0 w' g s0_0 x1001_1) ∧ Aside0 (KeepBut w w' g none) ∧ Aside0 (Below w0.heap.size w0 w'))
 case atStart => exact ⟨(y198), (0), (s0_1), (z_3), H', ⟨Nat.le_refl _⟩, ⟨z_45⟩, ⟨by (with_reducible repeat (first | apply Kd.R_alloc | apply Kd.R_drewN | apply Kd.R_drew)); exact HO203.out⟩, ⟨z_32⟩, ⟨z_31⟩, ⟨z_33⟩⟩
 case round =>
  clear H'
  try clear p2
  try clear c6
  obtain ⟨x5_1, x12_1, x1001_1, rfl, HA, HK1, HO_5, HO_10, HI0, HK, HB⟩ := hrel
  cases gk with
  | zero => exact absurd HA.out (by simp [spec_l20Names.l0])
  | succ k1 =>
   have H := HA.out
   clear HA
   simp only [spec_l20Names.l0] at H
   by_cases c8 : x12_1 < (y201.length : Int)
   ·rw [if_pos c8] at H
    have c8b0 : decide (x12_1 < (y201.length : Int)) = true := decide_eq_true c8
    clear c8
    by_cases c9 : 0 ≤ x12_1
    ·rw [if_pos c9] at H
     have c9b0 : decide (0 ≤ x12_1) = true := decide_eq_true c9
     clear c9
     by_cases c10 : x12_1 < (y201.length : Int)
     ·rw [if_pos c10] at H
      have c10b0 : decide (x12_1 < (y201.length : Int)) = true := decide_eq_true c10
      clear c10
      replace H := Option.bind_eq_some_iff.mp H
      obtain ⟨⟨t205, t206⟩, A110, H⟩ := H
      replace H : (if t205 > 0 then ((spec_l20Name.f k1 s0_0 t206 0).bind fun bt207 => (if x5_1.length < 2513169434916 then (spec_l20Names.l0 k1 a1 (x5_1 ++ [(⟨rdOf ByteArray.empty y201 x12_1, bt207.2.1, bt207.2.2.1, bt207.2.2.2.1, bt207.2.2.2.2.1⟩ : S26)]) y201 (y201.length : Int) (wrap64 (x12_1 + 1)) s0_0 bt207.2.2.2.2.2) else (none))) else (spec_l20Names.l0 k1 a1 x5_1 y201 (y201.length : Int) (wrap64 (x12_1 + 1)) s0_0 t206)) = some (r1, r2) := H
      have A11 := Aside0.mk A110
      clear A110
      by_cases c12 : t205 > 0
      ·rw [if_pos c12] at H
       have c12b0 : decide (0 < t205) = true := decide_eq_true c12
       clear c12
       replace H := Option.bind_eq_some_iff.mp H
       obtain ⟨⟨t207, t208, t209, t210, t211, t212⟩, A130, H⟩ := H
       replace H : (if x5_1.length < 2513169434916 then (spec_l20Names.l0 k1 a1 (x5_1 ++ [(⟨rdOf ByteArray.empty y201 x12_1, t208, t209, t210, t211⟩ : S26)]) y201 (y201.length : Int) (wrap64 (x12_1 + 1)) s0_0 t212) else (none)) = some (r1, r2) := H
       have A13 := Aside0.mk A130
       clear A130
       by_cases c14 : x5_1.length < 2513169434916
       ·rw [if_pos c14] at H
        have LMc14 := Aside0.mk c14
        clear c14
        obtain ⟨y214, hy214⟩ : ∃ y_ : List (S26), y_ = (x5_1 ++ [(⟨rdOf ByteArray.empty y201 x12_1, t208, t209, t210, t211⟩ : S26)]) := ⟨_, rfl⟩
        replace H : (spec_l20Names.l0 k1 a1 y214 y201 (y201.length : Int) (wrap64 (x12_1 + 1)) s0_0 t212) = some (r1, r2) := by first | (rw [hy214]; with_reducible exact H) | (have H2_ := (Option.bind_some _ _).symm.trans H; rw [hy214]; with_reducible exact H2_) | (have H2_ := (Option.bind_some _ _).symm.trans H; with_reducible exact H2_) | with_reducible exact H | (rw [hy214]; exact H) | exact H
        have Ny214 := Aside0.mk hy214
        clear hy214
        have H' := Aside0.mk H
        clear H
        have p204 : 0 ≤ (x12_1 : Int) := of_decide_eq_true (z_7)
        have q204 : x12_1 < (y201.length : Int) := of_decide_eq_true (z_7)
        obtain ⟨ad204, e204, hx204_0⟩ := Kd.at_string (Kd.R_reads' HO_10.out).2.2 x12_1 p204 q204
        cases e204
        replace p204 := eq_true p204
        replace q204 := eq_true q204
        generalize htx_ : rdOf ByteArray.empty y201 x12_1 = tx_ at hx204_0 Ny214
        clear htx_
        go_upto_region 8 with (first | ((with_reducible refine gate_callee (f := 69) rfl ?_); refine goesL_ (some 17) rfl rfl Try.func69 (z_0) rfl #[.pointer (some ⟨g, 0, none⟩), .int .i64 3] rfl (z_14) ?_; (with_reducible refine (spec_l20Rd_pick.calls k1 g s0_0 x1001_1 3 t205 t206 w0 _ ?side1 ?side2 A11.out).mono ?_); (case side1 => exact z_32); (case side2 => exact z_33); rintro e w15 ⟨rfl, hi, hb, hk⟩; refine ⟨_, rfl, ?_⟩; have n0_ := Aside0.mk (Kd.R_mono (Kd.R_keep (IsS96.apart (show IsS96 w0 _ g s0_0 x1001_1 from z_32) (z_11) (z_5)) hk (fun _ h => h.2)) (fun _ h => h.1)); have n1_ := Aside0.mk (Kd.R_mono (Kd.R_keep (IsS96.apart (show IsS96 w0 _ g s0_0 x1001_1 from z_32) (z_46) (z_5)) hk (fun _ h => h.2)) (fun _ h => h.1)); have n2_ := Aside0.mk (KeepBut.trans (z_31) hk (.inl rfl)); have n3_ := Aside0.mk (hb); have n4_ := Aside0.mk (hi); clear HO_5; clear HO_10; clear HK; clear HB; clear HI0; have HO_5 := n0_; have HO_10 := n1_; have HK := n2_; have HB := n3_; have HI0 := n4_; clear n0_ n1_ n2_ n3_ n4_; (try clear hb); (try clear hb2); (try clear hk); (try clear hi)) | ((with_reducible refine gate_callee (f := 59) rfl ?_); refine goesL_ (some 20) rfl rfl Try.func59 (z_0) rfl #[.pointer (some ⟨g, 0, none⟩), .int .i64 0] rfl (z_14) ?_; (with_reducible refine (spec_l20Name.calls k1 g s0_0 t206 0 t207 t208 t209 t210 t211 t212 w0 _ ?side1 ?side2 A13.out).mono ?_); (case side1 => exact z_32); (case side2 => exact z_33); rintro e w16 ⟨rfl, hi, hb, hk⟩; refine ⟨_, rfl, ?_⟩; have n0_ := Aside0.mk (Kd.R_mono (Kd.R_keep (IsS96.apart (show IsS96 w0 _ g s0_0 t206 from z_32) (z_11) (z_5)) hk (fun _ h => h.2)) (fun _ h => h.1)); have n1_ := Aside0.mk (Kd.R_mono (Kd.R_keep (IsS96.apart (show IsS96 w0 _ g s0_0 t206 from z_32) (z_46) (z_5)) hk (fun _ h => h.2)) (fun _ h => h.1)); have n2_ := Aside0.mk (KeepBut.trans (z_31) hk (.inl rfl)); have n3_ := Aside0.mk (hb); have n4_ := Aside0.mk (hi); clear HO_5; clear HO_10; clear HK; clear HB; clear HI0; have HO_5 := n0_; have HO_10 := n1_; have HK := n2_; have HB := n3_; have HI0 := n4_; clear n0_ n1_ n2_ n3_ n4_; (try clear hb); (try clear hb2); (try clear hk); (try clear hi)) | ((with_reducible refine gate_dst (N := 8) rfl ?_); refine box_event ?hg (N := 8) ?hd (cs := #[.string (⟨#[]⟩ : ByteArray), .int .i64 0, .int .i64 0, .string (⟨#[]⟩ : ByteArray), .int .i64 0]) (t := 26) ?hr ?_; (case hd => rfl); (case hg => rfl); (case hr => exact z_9); intro gb213 hg w17 hbox hb; have n0_ := Aside0.mk (Kd.R_below (Kd.R_elderB (z_11) gb213 (Nat.le_of_eq hg.symm)) hb); have n1_ := Aside0.mk (Kd.R_below (z_46) hb); have n2_ := Aside0.mk (IsS96.below (z_32) hb); have n3_ := Aside0.mk (KeepBut.trans (z_31) (KeepBut.of_below hb g none) (.inl rfl)); have n4_ := Aside0.mk (below_step (z_33) hb); have n5_ := Aside0.mk (hbox); have n6_ := Aside0.mk ((z_34 : w.heap.size ≤ gb213)); have n7_ := Aside0.mk ((Nat.le_trans HW0.out (z_34 : w.heap.size ≤ gb213) : w0.heap.size ≤ gb213)); have n8_ := Aside0.mk ((by rw [hg]; exact Nat.ne_of_lt (IsS96.lt (show IsS96 w0 _ g s0_0 t212 from z_32)) : g ≠ gb213)); have n9_ := Aside0.mk ((by rw [hg]; exact Nat.ne_of_gt (IsS96.lt (show IsS96 w0 _ g s0_0 t212 from z_32)) : gb213 ≠ g)); clear HO_5; clear HO_10; clear HI0; clear HK; clear HB; have HO_5 := n0_; have HO_10 := n1_; have HI0 := n2_; have HK := n3_; have HB := n4_; have BK213 := n5_; have GW213 := n6_; have GE213 := n7_; have NB0_213 := n8_; have NB213_0 := n9_; clear n0_ n1_ n2_ n3_ n4_ n5_ n6_ n7_ n8_ n9_; clear hb hbox hg; have hnb18 := NB213_0.out; have hnc18 := NB0_213.out; have hcz19_0 : w17.cell? ⟨gb213, 0, none⟩ = some (.string (⟨#[]⟩ : ByteArray)) := (blk_cell BK213.out 0).trans rfl; have hcz19_1 : w17.cell? ⟨gb213, 1, none⟩ = some (.int .i64 0) := (blk_cell BK213.out 1).trans rfl; have hcz19_2 : w17.cell? ⟨gb213, 2, none⟩ = some (.int .i64 0) := (blk_cell BK213.out 2).trans rfl; have hcz19_3 : w17.cell? ⟨gb213, 3, none⟩ = some (.string (⟨#[]⟩ : ByteArray)) := (blk_cell BK213.out 3).trans rfl; have hcz19_4 : w17.cell? ⟨gb213, 4, none⟩ = some (.int .i64 0) := (blk_cell BK213.out 4).trans rfl; have hfz19_0 := blk_frozen BK213.out 0; have hfz19_1 := blk_frozen BK213.out 1; have hfz19_2 := blk_frozen BK213.out 2; have hfz19_3 := blk_frozen BK213.out 3; have hfz19_4 := blk_frozen BK213.out 4))
        obtain ⟨w18, hw18_⟩ : ∃ w_ : World, w_ = ((((((w17.setCell ⟨gb213, 0, none⟩ (.string t207)).setCell ⟨gb213, 1, none⟩ (.int .i64 t208)).setCell ⟨gb213, 2, none⟩ (.int .i64 t209)).setCell ⟨gb213, 3, none⟩ (.string t210)).setCell ⟨gb213, 4, none⟩ (.int .i64 t211)).setCell ⟨gb213, 0, none⟩ (.string (tx_))) := ⟨_, rfl⟩
        have nb_ := Aside0.mk (show w18.heap[gb213]? = some (.cells #[.string (tx_), .int .i64 t208, .int .i64 t209, .string t210, .int .i64 t211] 26 (0, 0)) by rw [hw18_]; (with_reducible repeat (first | refine blk_drewN ?_ _ | refine blk_drew ?_ | refine blk_alloc ?_ _)); refine blk_put (cs := #[.string t207, .int .i64 t208, .int .i64 t209, .string t210, .int .i64 t211]) ?_ 0 _ rfl; (with_reducible repeat (first | refine blk_drewN ?_ _ | refine blk_drew ?_ | refine blk_alloc ?_ _)); refine blk_put (cs := #[.string t207, .int .i64 t208, .int .i64 t209, .string t210, .int .i64 0]) ?_ 4 _ rfl; (with_reducible repeat (first | refine blk_drewN ?_ _ | refine blk_drew ?_ | refine blk_alloc ?_ _)); refine blk_put (cs := #[.string t207, .int .i64 t208, .int .i64 t209, .string (⟨#[]⟩ : ByteArray), .int .i64 0]) ?_ 3 _ rfl; (with_reducible repeat (first | refine blk_drewN ?_ _ | refine blk_drew ?_ | refine blk_alloc ?_ _)); refine blk_put (cs := #[.string t207, .int .i64 t208, .int .i64 0, .string (⟨#[]⟩ : ByteArray), .int .i64 0]) ?_ 2 _ rfl; (with_reducible repeat (first | refine blk_drewN ?_ _ | refine blk_drew ?_ | refine blk_alloc ?_ _)); refine blk_put (cs := #[.string t207, .int .i64 0, .int .i64 0, .string (⟨#[]⟩ : ByteArray), .int .i64 0]) ?_ 1 _ rfl; (with_reducible repeat (first | refine blk_drewN ?_ _ | refine blk_drew ?_ | refine blk_alloc ?_ _)); refine blk_put (cs := #[.string (⟨#[]⟩ : ByteArray), .int .i64 0, .int .i64 0, .string (⟨#[]⟩ : ByteArray), .int .i64 0]) ?_ 0 _ rfl; (with_reducible repeat (first | refine blk_drewN ?_ _ | refine blk_drew ?_ | refine blk_alloc ?_ _)); exact BK213.out)
        have n5_ := Aside0.mk (show Kd.R k26 26 w18 w.heap.size (fun k_ => k_ ≠ gb213) u5 x5_1 by rw [hw18_]; exact Kd.R_mono (Kd.R_far (p := ⟨gb213, 0, none⟩) (Kd.R_far (p := ⟨gb213, 4, none⟩) (Kd.R_far (p := ⟨gb213, 3, none⟩) (Kd.R_far (p := ⟨gb213, 2, none⟩) (Kd.R_far (p := ⟨gb213, 1, none⟩) (Kd.R_far (p := ⟨gb213, 0, none⟩) (Kd.R_mono HO_5.out (fun k_ hk => (⟨hk, hk.2⟩ : _ ∧ k_ ≠ gb213))) (fun _ hk => hk.2) (.string t207)) (fun _ hk => hk.2) (.int .i64 t208)) (fun _ hk => hk.2) (.int .i64 t209)) (fun _ hk => hk.2) (.string t210)) (fun _ hk => hk.2) (.int .i64 t211)) (fun _ hk => hk.2) (.string (tx_))) (fun _ hk => hk.1.2))
        have n10_ := Aside0.mk (show Kd.R Kd.string 9 w18 w.heap.size (fun _ => True) _ y201 by rw [hw18_]; exact (Kd.R_mono (Kd.R_far (p := ⟨gb213, 0, none⟩) (Kd.R_far (p := ⟨gb213, 4, none⟩) (Kd.R_far (p := ⟨gb213, 3, none⟩) (Kd.R_far (p := ⟨gb213, 2, none⟩) (Kd.R_far (p := ⟨gb213, 1, none⟩) (Kd.R_far (p := ⟨gb213, 0, none⟩) (Kd.R_types HO_10.out BK213.out (z_5)) (fun _ hk => hk.2) (.string t207)) (fun _ hk => hk.2) (.int .i64 t208)) (fun _ hk => hk.2) (.int .i64 t209)) (fun _ hk => hk.2) (.string t210)) (fun _ hk => hk.2) (.int .i64 t211)) (fun _ hk => hk.2) (.string (tx_))) (fun _ h_ => h_.1)))
        have ni_ := Aside0.mk (show IsS96 w0 w18 g s0_0 t212 by rw [hw18_]; repeat (first | (with_reducible first | exact HI0.out | apply IsS96.alloc | apply IsS96.drewN | apply IsS96.drew | apply IsS96.set_1 | refine IsS96.far ?_ NB0_213.out _) | exact HI0.out))
        have nk_ := Aside0.mk (show KeepBut w w18 g none by rw [hw18_]; repeat (first | (with_reducible first | exact HK.out | apply KeepBut.set_ | apply keep_drewN | apply keep_drew | apply keep_alloc | refine keep_far ?_ GW213.out _) | exact HK.out))
        have nw_ := Aside0.mk (show Below w0.heap.size w0 w18 by rw [hw18_]; repeat (first | (with_reducible first | exact HB.out | apply below_alloc | apply pw_below_drewN | apply below_drew1 | refine below_set ?_ (IsS96.ge HI0.out) | refine below_set ?_ GE213.out) | exact HB.out))
        rw [← hw18_]
        clear hw18_ HO_5 HO_10 HI0 HK HB BK213
        clear hcz19_0
        clear hcz19_1
        clear hcz19_2
        clear hcz19_3
        clear hcz19_4
        clear hfz19_0
        clear hfz19_1
        clear hfz19_2
        clear hfz19_3
        clear hfz19_4
        have BK213 := nb_
        have HO_5 := n5_
        have HO_10 := n10_
        have HI0 := ni_
        have HK := nk_
        have HB := nw_
        clear nb_ n5_ n10_ ni_ nk_ nw_
        have hcz_0 : w18.cell? ⟨gb213, 0, none⟩ = some (.string (tx_)) := (blk_cell BK213.out 0).trans rfl
        have hfz_0 := blk_frozen BK213.out 0
        have hcz_1 : w18.cell? ⟨gb213, 1, none⟩ = some (.int .i64 t208) := (blk_cell BK213.out 1).trans rfl
        have hfz_1 := blk_frozen BK213.out 1
        have hcz_2 : w18.cell? ⟨gb213, 2, none⟩ = some (.int .i64 t209) := (blk_cell BK213.out 2).trans rfl
        have hfz_2 := blk_frozen BK213.out 2
        have hcz_3 : w18.cell? ⟨gb213, 3, none⟩ = some (.string t210) := (blk_cell BK213.out 3).trans rfl
        have hfz_3 := blk_frozen BK213.out 3
        have hcz_4 : w18.cell? ⟨gb213, 4, none⟩ = some (.int .i64 t211) := (blk_cell BK213.out 4).trans rfl
        have hfz_4 := blk_frozen BK213.out 4
        go_wp2_with (first | ((with_reducible refine gate_builtin (b := .append) (xs := #[.tmp 23, .tmp 25]) rfl ?_); at_builtin; refine Kd.R_append k26 w.heap.size rfl (.tmp 23) (.tmp 25) 36 26 (.agg #[(.string ⟨#[]⟩), (.int .i64 0), (.int .i64 0), (.string ⟨#[]⟩), (.int .i64 0)]) 56 rfl Try.underlying36 info26 rfl (z_5) (z_6) u5 x5_1 (⟨tx_, t208, t209, t210, t211⟩ : S26) [.string (tx_), .int .i64 t208, .int .i64 t209, .string t210, .int .i64 t211] (fun k_ => k_ ≠ gb213) (fun _ => False) rfl (z_9) ?aP (fun _ hk => hk.elim) ?aF ?aO (Below.refl _ _) ?aS ?aL ?_; (case aP => exact k26_mkM _ _ _ (⟨tx_, t208, t209, t210, t211⟩ : S26)); (case aF => exact (fun k_ hk => Kd.freshB (g := gb213) (o := .cells #[.string (tx_), .int .i64 t208, .int .i64 t209, .string t210, .int .i64 t211] 26 (0, 0)) (z_47) k_ hk)); (case aO => exact z_48); (case aS => exact (keep_size (w := w) (g := g) (row := none) (z_49))); (case aL => have := LMc14.out; omega); intro v215 w20 ho hb hg hat; rw [← Ny214.out] at ho; have n0_ := Aside0.mk (Kd.R_over' (z_46) (Kd.R_typed (z_11)) (z_5) hg); have n1_ := Aside0.mk (IsS96.grown (z_50) hg (IsS96.own_ne HI0.out HO_5.out (z_5))); have n2_ := Aside0.mk (blk_grown (g := gb213) (o := .cells #[.string (tx_), .int .i64 t208, .int .i64 t209, .string t210, .int .i64 t211] 26 (0, 0)) (z_47) hg (Kd.R_away HO_5.out (fun _ hk => hk))); have n3_ := Aside0.mk (below_weaken (z_51) HL.out hb); have n4_ := Aside0.mk (KeepBut.trans (z_49) (KeepBut.of_grown hg g) (Kd.R_base2 HO_5.out)); have n5_ := Aside0.mk (ho); clear HO_10; clear HI0; clear BK213; clear HB; clear HK; clear HO_5; have HO_10 := n0_; have HI0 := n1_; have BK213 := n2_; have HB := n3_; have HK := n4_; have HO216 := n5_; clear n0_ n1_ n2_ n3_ n4_ n5_; clear ho hb hg hat))
        go_roundg k1
        case measure => have := HK1.out; omega
        case rel => exact ⟨(y214), (wrap64 (x12_1 + 1)), (t212), (z_3), H', ⟨z_10⟩, ⟨by (with_reducible repeat (first | apply Kd.R_alloc | apply Kd.R_drewN | apply Kd.R_drew)); exact Kd.R_mono HO216.out (fun _ hk => trivial)⟩, ⟨z_46⟩, ⟨z_50⟩, ⟨z_49⟩, ⟨z_51⟩⟩
       ·rw [if_neg c14] at H
        exact absurd H (z_12)
      ·rw [if_neg c12] at H
       have c12b0 : decide (0 < t205) = false := decide_eq_false c12
       clear c12
       have H' := Aside0.mk H
       clear H
       have p204 : 0 ≤ (x12_1 : Int) := of_decide_eq_true (z_7)
       have q204 : x12_1 < (y201.length : Int) := of_decide_eq_true (z_7)
       obtain ⟨ad204, e204, hx204_0⟩ := Kd.at_string (Kd.R_reads' HO_10.out).2.2 x12_1 p204 q204
       cases e204
       replace p204 := eq_true p204
       replace q204 := eq_true q204
       go_wp2_with (first | ((with_reducible refine gate_callee (f := 69) rfl ?_); refine goesL_ (some 17) rfl rfl Try.func69 (z_0) rfl #[.pointer (some ⟨g, 0, none⟩), .int .i64 3] rfl (z_14) ?_; (with_reducible refine (spec_l20Rd_pick.calls k1 g s0_0 x1001_1 3 t205 t206 w0 _ ?side1 ?side2 A11.out).mono ?_); (case side1 => exact z_32); (case side2 => exact z_33); rintro e w21 ⟨rfl, hi, hb, hk⟩; refine ⟨_, rfl, ?_⟩; have n0_ := Aside0.mk (Kd.R_mono (Kd.R_keep (IsS96.apart (show IsS96 w0 _ g s0_0 x1001_1 from z_32) (z_11) (z_5)) hk (fun _ h => h.2)) (fun _ h => h.1)); have n1_ := Aside0.mk (Kd.R_mono (Kd.R_keep (IsS96.apart (show IsS96 w0 _ g s0_0 x1001_1 from z_32) (z_46) (z_5)) hk (fun _ h => h.2)) (fun _ h => h.1)); have n2_ := Aside0.mk (KeepBut.trans (z_31) hk (.inl rfl)); have n3_ := Aside0.mk (hb); have n4_ := Aside0.mk (hi); clear HO_5; clear HO_10; clear HK; clear HB; clear HI0; have HO_5 := n0_; have HO_10 := n1_; have HK := n2_; have HB := n3_; have HI0 := n4_; clear n0_ n1_ n2_ n3_ n4_; (try clear hb); (try clear hb2); (try clear hk); (try clear hi)))
       go_roundg k1
       case measure => have := HK1.out; omega
       case rel => exact ⟨(x5_1), (wrap64 (x12_1 + 1)), (t206), (z_3), H', ⟨z_10⟩, ⟨z_11⟩, ⟨z_46⟩, ⟨z_32⟩, ⟨z_31⟩, ⟨z_33⟩⟩
     ·rw [if_neg c10] at H
      exact absurd H (z_12)
    ·rw [if_neg c9] at H
     exact absurd H (z_12)
   ·rw [if_neg c8] at H
    have c8b0 : decide (x12_1 < (y201.length : Int)) = false := decide_eq_false c8
    clear c8
    replace H := Option.bind_eq_some_iff.mp H
    obtain ⟨⟨t217, t218⟩, A220, H⟩ := H
    replace H : (if t217 = true then ((spec_l20Name.f k1 s0_0 t218 1).bind fun bt219 => (if x5_1.length < 2513169434916 then (some ((x5_1 ++ [(⟨bt219.1, bt219.2.1, bt219.2.2.1, bt219.2.2.2.1, bt219.2.2.2.2.1⟩ : S26)]), bt219.2.2.2.2.2)) else (none))) else (some (x5_1, t218))) = some (r1, r2) := H
    have A22 := Aside0.mk A220
    clear A220
    by_cases c23 : t217 = true
    ·subst c23
     rw [if_pos rfl] at H
     replace H := Option.bind_eq_some_iff.mp H
     obtain ⟨⟨t219, t220, t221, t222, t223, t224⟩, A240, H⟩ := H
     replace H : (if x5_1.length < 2513169434916 then (some ((x5_1 ++ [(⟨t219, t220, t221, t222, t223⟩ : S26)]), t224)) else (none)) = some (r1, r2) := H
     have A24 := Aside0.mk A240
     clear A240
     by_cases c25 : x5_1.length < 2513169434916
     ·rw [if_pos c25] at H
      have LMc25 := Aside0.mk c25
      clear c25
      obtain ⟨y225, hy225⟩ : ∃ y_ : List (S26), y_ = (x5_1 ++ [(⟨t219, t220, t221, t222, t223⟩ : S26)]) := ⟨_, rfl⟩
      replace H : (some (y225, t224)) = some (r1, r2) := by first | (rw [hy225]; with_reducible exact H) | (have H2_ := (Option.bind_some _ _).symm.trans H; rw [hy225]; with_reducible exact H2_) | (have H2_ := (Option.bind_some _ _).symm.trans H; with_reducible exact H2_) | with_reducible exact H | (rw [hy225]; exact H) | exact H
      have Ny225 := Aside0.mk hy225
      clear hy225
      simp only [Option.some.injEq, Prod.mk.injEq] at H
      obtain ⟨rfl, rfl⟩ := H
      go_wp2_with (first | ((with_reducible refine gate_callee (f := 78) rfl ?_); refine goesL_ (some 30) rfl rfl Try.func78 (z_0) rfl #[.pointer (some ⟨g, 0, none⟩), .int .i64 a1] rfl (z_14) ?_; (with_reducible refine (spec_l20Rd_odd.calls k1 g s0_0 x1001_1 a1 true t218 w0 _ ?side1 ?side2 A22.out).mono ?_); (case side1 => exact z_32); (case side2 => exact z_33); rintro e w26 ⟨rfl, hi, hb, hk⟩; refine ⟨_, rfl, ?_⟩; have n0_ := Aside0.mk (Kd.R_mono (Kd.R_keep (IsS96.apart (show IsS96 w0 _ g s0_0 x1001_1 from z_32) (z_11) (z_5)) hk (fun _ h => h.2)) (fun _ h => h.1)); have n1_ := Aside0.mk (Kd.R_mono (Kd.R_keep (IsS96.apart (show IsS96 w0 _ g s0_0 x1001_1 from z_32) (z_46) (z_5)) hk (fun _ h => h.2)) (fun _ h => h.1)); have n2_ := Aside0.mk (KeepBut.trans (z_31) hk (.inl rfl)); have n3_ := Aside0.mk (hb); have n4_ := Aside0.mk (hi); clear HO_5; clear HO_10; clear HK; clear HB; clear HI0; have HO_5 := n0_; have HO_10 := n1_; have HK := n2_; have HB := n3_; have HI0 := n4_; clear n0_ n1_ n2_ n3_ n4_; (try clear hb); (try clear hb2); (try clear hk); (try clear hi)) | ((with_reducible refine gate_callee (f := 59) rfl ?_); refine goesL_ (some 33) rfl rfl Try.func59 (z_0) rfl #[.pointer (some ⟨g, 0, none⟩), .int .i64 1] rfl (z_14) ?_; (with_reducible refine (spec_l20Name.calls k1 g s0_0 t218 1 t219 t220 t221 t222 t223 t224 w0 _ ?side1 ?side2 A24.out).mono ?_); (case side1 => exact z_32); (case side2 => exact z_33); rintro e w27 ⟨rfl, hi, hb, hk⟩; refine ⟨_, rfl, ?_⟩; have n0_ := Aside0.mk (Kd.R_mono (Kd.R_keep (IsS96.apart (show IsS96 w0 _ g s0_0 t218 from z_32) (z_11) (z_5)) hk (fun _ h => h.2)) (fun _ h => h.1)); have n1_ := Aside0.mk (Kd.R_mono (Kd.R_keep (IsS96.apart (show IsS96 w0 _ g s0_0 t218 from z_32) (z_46) (z_5)) hk (fun _ h => h.2)) (fun _ h => h.1)); have n2_ := Aside0.mk (KeepBut.trans (z_31) hk (.inl rfl)); have n3_ := Aside0.mk (hb); have n4_ := Aside0.mk (hi); clear HO_5; clear HO_10; clear HK; clear HB; clear HI0; have HO_5 := n0_; have HO_10 := n1_; have HK := n2_; have HB := n3_; have HI0 := n4_; clear n0_ n1_ n2_ n3_ n4_; (try clear hb); (try clear hb2); (try clear hk); (try clear hi)) | ((with_reducible refine gate_builtin (b := .append) (xs := #[.tmp 31, .tmp 34]) rfl ?_); at_builtin; refine Kd.R_append k26 w.heap.size rfl (.tmp 31) (.tmp 34) 36 26 (.agg #[(.string ⟨#[]⟩), (.int .i64 0), (.int .i64 0), (.string ⟨#[]⟩), (.int .i64 0)]) 56 rfl Try.underlying36 info26 rfl (z_5) (z_6) u5 x5_1 (⟨t219, t220, t221, t222, t223⟩ : S26) [.string t219, .int .i64 t220, .int .i64 t221, .string t222, .int .i64 t223] (fun _ => True) (fun _ => False) rfl rfl ?aP (fun _ hk => hk.elim) ?aF ?aO (Below.refl _ _) ?aS ?aL ?_; (case aP => exact k26_mkM _ _ _ (⟨t219, t220, t221, t222, t223⟩ : S26)); (case aF => exact z_52); (case aO => exact z_48); (case aS => exact z_53); (case aL => have := LMc25.out; omega); intro v226 w28 ho hb hg hat; rw [← Ny225.out] at ho; have n0_ := Aside0.mk (Kd.R_over' (z_46) (Kd.R_typed (z_11)) (z_5) hg); have n1_ := Aside0.mk (IsS96.grown (z_32) hg (IsS96.own_ne HI0.out HO_5.out (z_5))); have n2_ := Aside0.mk (below_weaken (z_33) HL.out hb); have n3_ := Aside0.mk (KeepBut.trans (z_31) (KeepBut.of_grown hg g) (Kd.R_base2 HO_5.out)); have n4_ := Aside0.mk (ho); clear HO_10; clear HI0; clear HB; clear HK; clear HO_5; have HO_10 := n0_; have HI0 := n1_; have HB := n2_; have HK := n3_; have HO227 := n4_; clear n0_ n1_ n2_ n3_ n4_; clear ho hb hg hat))
      go_ret
      exact ⟨_, z_13, by (with_reducible repeat (first | apply Kd.R_alloc | apply Kd.R_drewN | apply Kd.R_drew)); exact HO227.out, z_32, z_33, z_31⟩
     ·rw [if_neg c25] at H
      exact absurd H (z_12)
    ·replace c23 := Bool.eq_false_iff.mpr c23
     subst c23
     rw [if_neg (show ¬ (false = true) by decide)] at H
     simp only [Option.some.injEq, Prod.mk.injEq] at H
     obtain ⟨rfl, rfl⟩ := H
     go_wp2_with (first | ((with_reducible refine gate_callee (f := 78) rfl ?_); refine goesL_ (some 30) rfl rfl Try.func78 (z_0) rfl #[.pointer (some ⟨g, 0, none⟩), .int .i64 a1] rfl (z_14) ?_; (with_reducible refine (spec_l20Rd_odd.calls k1 g s0_0 x1001_1 a1 false t218 w0 _ ?side1 ?side2 A22.out).mono ?_); (case side1 => exact z_32); (case side2 => exact z_33); rintro e w29 ⟨rfl, hi, hb, hk⟩; refine ⟨_, rfl, ?_⟩; have n0_ := Aside0.mk (Kd.R_mono (Kd.R_keep (IsS96.apart (show IsS96 w0 _ g s0_0 x1001_1 from z_32) (z_11) (z_5)) hk (fun _ h => h.2)) (fun _ h => h.1)); have n1_ := Aside0.mk (Kd.R_mono (Kd.R_keep (IsS96.apart (show IsS96 w0 _ g s0_0 x1001_1 from z_32) (z_46) (z_5)) hk (fun _ h => h.2)) (fun _ h => h.1)); have n2_ := Aside0.mk (KeepBut.trans (z_31) hk (.inl rfl)); have n3_ := Aside0.mk (hb); have n4_ := Aside0.mk (hi); clear HO_5; clear HO_10; clear HK; clear HB; clear HI0; have HO_5 := n0_; have HO_10 := n1_; have HK := n2_; have HB := n3_; have HI0 := n4_; clear n0_ n1_ n2_ n3_ n4_; (try clear hb); (try clear hb2); (try clear hk); (try clear hi)))
     go_ret
     exact ⟨_, z_13, z_11, z_32, z_33, z_31⟩

/-! ### spec_l1In: function 55 -/
def spec_l1In.f (a0 : Int) (a1 : Int) (a2 : Int) : Option (Bool) := if a0 ≥ a1 then (some (decide (a0 ≤ a2))) else (some false)
set_option maxHeartbeats 8000000 in
set_option maxRecDepth 100000 in
theorem spec_l1In.calls (a0 : Int) (a1 : Int) (a2 : Int) (r : Bool) (w : World) (h : spec_l1In.f a0 a1 a2 = some r) :
  Calls Try.prog 55 #[.int .i64 a0, .int .i64 a1, .int .i64 a2] w fun e w' => e = .returned (.bool r) ∧ Drawn0 w w' := by
 have H : (if a0 ≥ a1 then (some (decide (a0 ≤ a2))) else (some false)) = some r := h
 clear h
 by_cases c4 : a0 ≥ a1
 ·rw [if_pos c4] at H
  have c4b0 : decide (a1 ≤ a0) = true := decide_eq_true c4
  clear c4
  obtain rfl := Option.some.inj H
  go_enter Try.func55, Try.ntmps55
  go_wp2
  go_ret
  exact ⟨z_3, z_4⟩
 ·rw [if_neg c4] at H
  have c4b0 : decide (a1 ≤ a0) = false := decide_eq_false c4
  clear c4
  obtain rfl := Option.some.inj H
  go_enter Try.func55, Try.ntmps55
  go_wp2
  go_ret
  exact ⟨z_3, z_4⟩

/-! ### spec_l19Word: function 54 -/
def spec_l19Word.l0 : Nat → ByteArray → Int → Option (Bool)
 | 0, _, _ => none
 | k + 1, x0, x3 => if x3 < (x0.size : Int) then (if 0 ≤ x3 then (if (bt x0 x3) < 97 then (some false) else (if (bt x0 x3) > 122 then (some false) else (spec_l19Word.l0 k x0 (wrap64 (x3 + 1))))) else (none)) else ((spec_l1In.f (x0.size : Int) 1 12).bind fun t228 => (some t228))
def spec_l19Word.f (k : Nat) (a0 : ByteArray) : Option (Bool) := spec_l19Word.l0 k a0 0
theorem spec_l19Word.mono_l : ∀ k, (∀ y0 y1, LeO (spec_l19Word.l0 k y0 y1) (spec_l19Word.l0 (k + 1) y0 y1))
 | 0 => fun _ _ r h => by simp [spec_l19Word.l0] at h
 | k + 1 => by
  have ih0 := spec_l19Word.mono_l k
  ·intro y0 y1
   unfold spec_l19Word.l0
   repeat' first
   | (with_reducible exact ih0 _ _)
   | (with_reducible exact LeO.refl _)
   | (with_reducible exact LeO.none _)
   | (with_reducible refine LeO.ite ?_ ?_)
   | (with_reducible refine LeO.bind ?_ (fun _ => ?_))
   | exact ih0 _ _
   | exact LeO.none _
   | refine LeO.ite ?_ ?_
   | refine LeO.bind ?_ (fun _ => ?_)
theorem spec_l19Word.mono : ∀ a0 k, LeO (spec_l19Word.f k a0) (spec_l19Word.f (k + 1) a0) := by
 intro a0 k
 have ih0 := spec_l19Word.mono_l k
 unfold spec_l19Word.f
 repeat' first
   | (with_reducible exact ih0 _ _)
   | (with_reducible exact LeO.refl _)
   | (with_reducible exact LeO.none _)
   | (with_reducible refine LeO.ite ?_ ?_)
   | (with_reducible refine LeO.bind ?_ (fun _ => ?_))
   | exact ih0 _ _
   | exact LeO.none _
   | refine LeO.ite ?_ ?_
   | refine LeO.bind ?_ (fun _ => ?_)
set_option maxHeartbeats 8000000 in
set_option maxRecDepth 100000 in
theorem spec_l19Word.calls (k : Nat) (a0 : ByteArray) (r : Bool) (w : World) (h : spec_l19Word.f k a0 = some r) :
  Calls Try.prog 54 #[.string a0] w fun e w' => e = .returned (.bool r) ∧ Drawn0 w w' := by
 have H : (spec_l19Word.l0 k a0 0) = some r := h
 clear h
 have H' := Aside0.mk H
 clear H
 go_enter Try.func54, Try.ntmps54
 go_wp2
 go_loopg [3] k (fun kq v3 w' => ∃ (x3_1 : Int), v3 = .int .i64 x3_1 ∧ Aside0 (spec_l19Word.l0 kq a0 x3_1 = some r) ∧ Aside0 (kq ≤ k) ∧ Drawn0 w w')
 case atStart => exact ⟨(0), (z_3), H', ⟨Nat.le_refl _⟩, z_4⟩
 case round =>
  clear H'
  obtain ⟨x3_1, rfl, HA, HK1, ⟨m1, rfl⟩⟩ := hrel
  cases gk with
  | zero => exact absurd HA.out (by simp [spec_l19Word.l0])
  | succ k1 =>
   have H := HA.out
   clear HA
   simp only [spec_l19Word.l0] at H
   by_cases c2 : x3_1 < (a0.size : Int)
   ·rw [if_pos c2] at H
    have c2b0 : decide (x3_1 < (a0.size : Int)) = true := decide_eq_true c2
    clear c2
    by_cases c3 : 0 ≤ x3_1
    ·rw [if_pos c3] at H
     have c3b0 : decide (0 ≤ x3_1) = true := decide_eq_true c3
     clear c3
     by_cases c5 : (bt a0 x3_1) < 97
     ·rw [if_pos c5] at H
      have c5b0 : decide ((bt a0 x3_1) < 97) = true := decide_eq_true c5
      clear c5
      obtain rfl := Option.some.inj H
      have p4 : 0 ≤ (x3_1 : Int) := of_decide_eq_true (z_7)
      have q4 : x3_1 < (a0.size : Int) := of_decide_eq_true (z_7)
      have hx4 := bt_at a0 x3_1
      replace p4 := eq_true p4
      replace q4 := eq_true q4
      go_wp2
      go_ret
      exact ⟨z_3, z_4⟩
     ·rw [if_neg c5] at H
      have c5b0 : decide ((bt a0 x3_1) < 97) = false := decide_eq_false c5
      clear c5
      by_cases c7 : (bt a0 x3_1) > 122
      ·rw [if_pos c7] at H
       have c7b0 : decide (122 < (bt a0 x3_1)) = true := decide_eq_true c7
       clear c7
       obtain rfl := Option.some.inj H
       have p4 : 0 ≤ (x3_1 : Int) := of_decide_eq_true (z_7)
       have q4 : x3_1 < (a0.size : Int) := of_decide_eq_true (z_7)
       have hx4 := bt_at a0 x3_1
       replace p4 := eq_true p4
       replace q4 := eq_true q4
       have p6 : 0 ≤ (x3_1 : Int) := of_decide_eq_true (z_7)
       have q6 : x3_1 < (a0.size : Int) := of_decide_eq_true (z_7)
       have hx6 := bt_at a0 x3_1
       replace p6 := eq_true p6
       replace q6 := eq_true q6
       go_wp2
       go_ret
       exact ⟨z_3, z_4⟩
      ·rw [if_neg c7] at H
       have c7b0 : decide (122 < (bt a0 x3_1)) = false := decide_eq_false c7
       clear c7
       have H' := Aside0.mk H
       clear H
       have p4 : 0 ≤ (x3_1 : Int) := of_decide_eq_true (z_7)
       have q4 : x3_1 < (a0.size : Int) := of_decide_eq_true (z_7)
       have hx4 := bt_at a0 x3_1
       replace p4 := eq_true p4
       replace q4 := eq_true q4
       have p6 : 0 ≤ (x3_1 : Int) := of_decide_eq_true (z_7)
       have q6 : x3_1 < (a0.size : Int) := of_decide_eq_true (z_7)
       have hx6 := bt_at a0 x3_1
       replace p6 := eq_true p6
       replace q6 := eq_true q6
       go_wp2
       go_roundg k1
       case measure => have := HK1.out; omega
       case rel => exact ⟨(wrap64 (x3_1 + 1)), (z_3), H', ⟨z_10⟩, z_4⟩
    ·rw [if_neg c3] at H
     exact absurd H (z_12)
   ·rw [if_neg c2] at H
    have c2b0 : decide (x3_1 < (a0.size : Int)) = false := decide_eq_false c2
    clear c2
    replace H := Option.bind_eq_some_iff.mp H
    obtain ⟨t228, A80, H⟩ := H
    have A8 := Aside0.mk A80
    clear A80
    obtain rfl := Option.some.inj H
    go_wp2_with (first | ((with_reducible refine gate_callee (f := 55) rfl ?_); refine goesL_ (some 22) rfl rfl Try.func55 (z_0) rfl #[.int .i64 (a0.size : Int), .int .i64 1, .int .i64 12] rfl (z_14) ?_; (with_reducible refine (spec_l1In.calls (a0.size : Int) 1 12 t228 _ A8.out).mono ?_); rintro e w' ⟨rfl, ⟨nd, rfl⟩⟩; refine ⟨_, rfl, ?_⟩))
    go_ret
    exact ⟨z_3, z_4⟩

end Go.Proofs.Ytmgnmgobibpjjaa.GFnKeptFind
