/- The plain statement of FnExactPaceHeard holds; there is no condition beyond those it names. -/
import Derived.Test.YtkhjpkholpclhaaShpFnExactPaceHeard
set_option linter.unusedVariables false
set_option linter.unusedSimpArgs false
set_option maxRecDepth 100000
namespace Go.Proofs.Ytkhjpkholpclhaa.Pure
open Go.RowKit Go.Proofs.Ytkhjpkholpclhaa.PFnExactPaceHeard Go.Proofs.YtkhjpkholpclhaaW.PrintWords Go.Proofs.YtkhjpkholpclhaaW.PrintLast Go.Proofs.YtkhjpkholpclhaaW.PrintMore

theorem w64 {x : Int} (h0 : -9223372036854775808 ≤ x) (h1 : x ≤ 9223372036854775807) : wrap64 x = x := by unfold wrap64; omega

/-- It comes to an answer of which P holds. -/
def Evx {α : Type} (g : Nat → Option α) (P : α → Prop) : Prop := ∃ r, Ev g r ∧ P r
theorem Evx.bind {α β : Type} {g : Nat → Option α} {f : Nat → α → Option β} {P : α → Prop} {Q : β → Prop} (h : Evx g P) (k : ∀ a, P a → Evx (fun n => f n a) Q) : Evx (fun n => (g n).bind (f n)) Q := by
  obtain ⟨a, ha, pa⟩ := h
  obtain ⟨r, hr, qr⟩ := k a pa
  exact ⟨r, Ev.bind ha hr, qr⟩
theorem Evx.now {α : Type} {P : α → Prop} {r : α} (h : P r) : Evx (fun _ => some r) P := ⟨r, Ev.now r, h⟩
theorem Evx.pos {α : Type} {c : Prop} [Decidable c] {f g : Nat → Option α} {P : α → Prop} (hc : c) (h : Evx f P) : Evx (fun n => if c then f n else g n) P := by
  simp only [if_pos hc]; exact h
theorem Evx.neg {α : Type} {c : Prop} [Decidable c] {f g : Nat → Option α} {P : α → Prop} (hc : ¬ c) (h : Evx g P) : Evx (fun n => if c then f n else g n) P := by
  simp only [if_neg hc]; exact h
theorem Evx.ite {α : Type} {c : Prop} [Decidable c] {f g : Nat → Option α} {P : α → Prop} (h : c → Evx f P) (k : ¬ c → Evx g P) : Evx (fun n => if c then f n else g n) P := by
  by_cases hc : c
  · exact Evx.pos hc (h hc)
  · exact Evx.neg hc (k hc)
theorem Evx.step {α : Type} {g f : Nat → Option α} {P : α → Prop} (h : ∀ k, g (k + 1) = f k) (k : Evx f P) : Evx g P := by
  obtain ⟨r, hr, p⟩ := k
  exact ⟨r, Ev.step h hr, p⟩
theorem Evx.mono {α : Type} {g : Nat → Option α} {P Q : α → Prop} (h : Evx g P) (k : ∀ r, P r → Q r) : Evx g Q := by
  obtain ⟨r, hr, p⟩ := h
  exact ⟨r, hr, k r p⟩
theorem Evx.law {g : Nat → Option Bool} (h : Evx g (fun r => r = true)) : ∃ k, g k = some true := by
  obtain ⟨r, hr, rfl⟩ := h
  exact hr.rounds
theorem Evx.of {α : Type} {g : Nat → Option α} {r : α} {P : α → Prop} (hg : ∀ k, LeO (g k) (g (k + 1))) {k : Nat} (h : g k = some r) (p : P r) : Evx g P := ⟨r, Ev.of hg h, p⟩

/-- All are bytes. -/
def Byt (l : List Int) : Prop := ∀ x ∈ l, 0 ≤ x ∧ x ≤ 255
theorem byt_wf {l : List Int} (h : ∀ x ∈ l, (Lit.int .u8 x).wf = true) : Byt l := by
  intro x hx
  have := h x hx
  simp [Lit.wf, IntKind.min, IntKind.max, IntKind.signed, IntKind.bits] at this
  omega
theorem byt_rd {l : List Int} (h : Byt l) (i : Int) : 0 ≤ rd l i ∧ rd l i ≤ 255 := by
  unfold rd
  by_cases hi : i.toNat < l.length
  · rw [List.getD_eq_getElem?_getD, List.getElem?_eq_getElem hi]; exact h _ (List.getElem_mem hi)
  · rw [List.getD_eq_getElem?_getD, List.getElem?_eq_none (by omega)]; simp
theorem xor_nn {x y : Int} (hx : 0 ≤ x) (hx1 : x < 4611686018427387904) (hy : 0 ≤ y) (hy1 : y < 4611686018427387904) : 0 ≤ Go.bits .xor .i64 x y := by
  obtain ⟨a, rfl⟩ := Int.eq_ofNat_of_zero_le hx
  obtain ⟨b, rfl⟩ := Int.eq_ofNat_of_zero_le hy
  have ha : a < 2 ^ 62 := by omega
  have hb : b < 2 ^ 62 := by omega
  have hc := Nat.xor_lt_two_pow ha hb
  unfold Go.bits
  simp only [BitVec.ofInt_natCast, BitVec.toNat_xor, BitVec.toNat_ofNat]
  rw [IntKind.wrap_i64]
  have e : IntKind.i64.bits = 64 := rfl
  rw [e, Nat.mod_eq_of_lt (by omega), Nat.mod_eq_of_lt (by omega)]
  omega

theorem impl_in_eq (a b c : Int) : impl_in.f a b c = some (decide (b ≤ a ∧ a ≤ c)) := by
  unfold impl_in.f
  by_cases h : b ≤ a
  · rw [if_pos h]; simp [h]
  · rw [if_neg (by omega)]; simp [h]
theorem spec_in_eq (a b c : Int) : spec_l1In.f a b c = some (decide (b ≤ a ∧ a ≤ c)) := by
  unfold spec_l1In.f
  by_cases h : b ≤ a
  · rw [if_pos h]; simp [h]
  · rw [if_neg (by omega)]; simp [h]
/-- It is a pace. -/
def Pok (w l r : Int) : Prop := (1 ≤ w ∧ w ≤ 64) ∧ (2 ≤ l ∧ l ≤ 64) ∧ 0 ≤ r ∧ r ≤ w - 1
instance (w l r : Int) : Decidable (Pok w l r) := by unfold Pok; infer_instance
theorem impl_PaceOk_eq (w l r : Int) : impl_PaceOk.f w l r = some (decide (Pok w l r)) := by
  unfold impl_PaceOk.f
  simp only [impl_in_eq, Option.bind_some]
  by_cases h : 1 ≤ w ∧ w ≤ 64
  · have e : wrap64 (w - 1) = w - 1 := by unfold wrap64; omega
    rw [if_pos (by simpa using h), e]
    by_cases h2 : 2 ≤ l ∧ l ≤ 64
    · rw [if_pos (by simpa using h2)]; simp [Pok, h, h2]
    · rw [if_neg (by simpa using h2)]; simp [Pok, h, h2]
  · rw [if_neg (by simpa using h)]; simp [Pok, h]
theorem spec_PaceOk_eq (w l r : Int) : spec_PaceOk.f w l r = some (decide (Pok w l r)) := by
  unfold spec_PaceOk.f
  simp only [spec_in_eq, Option.bind_some]
  by_cases h : 1 ≤ w ∧ w ≤ 64
  · have e : wrap64 (w - 1) = w - 1 := by unfold wrap64; omega
    rw [if_pos (by simpa using h), e]
    by_cases h2 : 2 ≤ l ∧ l ≤ 64
    · rw [if_pos (by simpa using h2)]; simp [Pok, h, h2]
    · rw [if_neg (by simpa using h2)]; simp [Pok, h, h2]
  · rw [if_neg (by simpa using h)]; simp [Pok, h]

/-- A pace after one more was heard. -/
def Heard (w l r : Int) : Int × Int × Int := if w < l then (w + 1, l, 0) else if r + 1 < w then (w, l, r + 1) else (mn 64 (w + 1), l, 0)
theorem impl_PaceHeard_eq {w l r : Int} (h : Pok w l r) : impl_PaceHeard.f w l r = some (Heard w l r) := by
  unfold impl_PaceHeard.f
  rw [impl_PaceOk_eq]; simp only [Option.bind_some]
  rw [if_pos (by simpa using h)]
  unfold Pok at h
  have e1 : wrap64 (w + 1) = w + 1 := by unfold wrap64; omega
  have e2 : wrap64 (r + 1) = r + 1 := by unfold wrap64; omega
  rw [e1, e2]; unfold Heard
  by_cases c : w < l
  · rw [if_pos c, if_pos c]
  · rw [if_neg c, if_neg c]
    by_cases d : r + 1 < w
    · rw [if_pos d, if_pos d]
    · rw [if_neg d, if_neg d]
theorem impl_PaceHeard_no {w l r : Int} (h : ¬ Pok w l r) : impl_PaceHeard.f w l r = some (0, 0, 0) := by
  unfold impl_PaceHeard.f
  rw [impl_PaceOk_eq]; simp only [Option.bind_some]
  rw [if_neg (by simpa using h)]
theorem heard_ok {w l r : Int} (h : Pok w l r) : Pok (Heard w l r).1 (Heard w l r).2.1 (Heard w l r).2.2 ∧ ((Heard w l r).1 = w ∨ (Heard w l r).1 = w + 1) := by
  unfold Pok at h
  unfold Heard
  by_cases c : w < l
  · rw [if_pos c]
    exact ⟨(show Pok (w + 1) l 0 from by unfold Pok; omega), .inr rfl⟩
  · rw [if_neg c]
    by_cases d : r + 1 < w
    · rw [if_pos d]
      exact ⟨(show Pok w l (r + 1) from by unfold Pok; omega), .inl rfl⟩
    · rw [if_neg d]
      have m : mn 64 (w + 1) = w ∨ mn 64 (w + 1) = w + 1 := by unfold mn; omega
      have m2 : mn 64 (w + 1) ≤ 64 := by unfold mn; omega
      exact ⟨(show Pok (mn 64 (w + 1)) l 0 from by unfold Pok; omega), m⟩

theorem spec_PaceHeard_eq {w l r : Int} (h : Pok w l r) : spec_PaceHeard.f w l r = some (Heard w l r) := by
  unfold spec_PaceHeard.f
  rw [spec_PaceOk_eq]; simp only [Option.bind_some]
  rw [if_pos (by simpa using h)]
  unfold Pok at h
  have e1 : wrap64 (w + 1) = w + 1 := by unfold wrap64; omega
  have e2 : wrap64 (r + 1) = r + 1 := by unfold wrap64; omega
  have e3 : mn (w + 1) 64 = mn 64 (w + 1) := by unfold mn; omega
  rw [e1, e2, e3]; unfold Heard
  by_cases c : w < l
  · rw [if_pos c, if_pos c]
  · rw [if_neg c, if_neg c]
    by_cases d : r + 1 < w
    · rw [if_pos d, if_pos d]
    · rw [if_neg d, if_neg d]
theorem spec_PaceHeard_no {w l r : Int} (h : ¬ Pok w l r) : spec_PaceHeard.f w l r = some (0, 0, 0) := by
  unfold spec_PaceHeard.f
  rw [spec_PaceOk_eq]; simp only [Option.bind_some]
  rw [if_neg (by simpa using h)]

theorem FnExactPaceHeard : Go.Proofs.Ytkhjpkholpclhaa.ShpFnExactPaceHeard.Pure := by
  intro m f w _ _ _
  unfold laws_FnExactPaceHeard.f laws_toPace.f
  simp only [Option.bind_some]
  by_cases h : Pok m f w
  · rw [impl_PaceHeard_eq h, spec_PaceHeard_eq h]; simp [laws_eqPace.f]
  · rw [impl_PaceHeard_no h, spec_PaceHeard_no h]; simp [laws_eqPace.f]

end Go.Proofs.Ytkhjpkholpclhaa.Pure
