/- The plain statement of FnExactWatchOk holds; there is no condition beyond those it names. -/
import Derived.Test.YtkhjpkholpclhaaShpFnExactWatchOk
set_option linter.unusedVariables false
set_option linter.unusedSimpArgs false
set_option maxRecDepth 100000
namespace Go.Proofs.Ytkhjpkholpclhaa.Pure
open Go.RowKit Go.Proofs.Ytkhjpkholpclhaa.PFnExactWatchOk Go.Proofs.YtkhjpkholpclhaaW.PrintWords Go.Proofs.YtkhjpkholpclhaaW.PrintLast Go.Proofs.YtkhjpkholpclhaaW.PrintMore

theorem w64 {x : Int} (h0 : -9223372036854775808 ≤ x) (h1 : x ≤ 9223372036854775807) : wrap64 x = x := by unfold wrap64; omega

/-- It comes to an answer of which P holds. -/
def Evx {α : Type} (g : Nat → Option α) (P : α → Prop) : Prop := ∃ r, Ev g r ∧ P r
theorem Evx.bind {α β : Type} {g : Nat → Option α} {f : Nat → α → Option β} {P : α → Prop} {Q : β → Prop} (h : Evx g P) (k : ∀ a, P a → Evx (fun n => f n a) Q) : Evx (fun n => (g n).bind (f n)) Q := by
  obtain ⟨a, ha, pa⟩ := h
  obtain ⟨r, hr, qr⟩ := k a pa
  exact ⟨r, Ev.bind ha hr, qr⟩
theorem Evx.now {α : Type} {P : α → Prop} {r : α} (h : P r) : Evx (fun _ => some r) P := ⟨r, Ev.now r, h⟩
theorem Evx.pos {α : Type} {c : Prop} [Decidable c] {f g : Nat → Option α} {P : α → Prop} (hc : c) (h : Evx f P) : Evx (fun n => if c then f n else g n) P := by
  simp only [if_pos hc]; exact h
theorem Evx.neg {α : Type} {c : Prop} [Decidable c] {f g : Nat → Option α} {P : α → Prop} (hc : ¬ c) (h : Evx g P) : Evx (fun n => if c then f n else g n) P := by
  simp only [if_neg hc]; exact h
theorem Evx.ite {α : Type} {c : Prop} [Decidable c] {f g : Nat → Option α} {P : α → Prop} (h : c → Evx f P) (k : ¬ c → Evx g P) : Evx (fun n => if c then f n else g n) P := by
  by_cases hc : c
  · exact Evx.pos hc (h hc)
  · exact Evx.neg hc (k hc)
theorem Evx.step {α : Type} {g f : Nat → Option α} {P : α → Prop} (h : ∀ k, g (k + 1) = f k) (k : Evx f P) : Evx g P := by
  obtain ⟨r, hr, p⟩ := k
  exact ⟨r, Ev.step h hr, p⟩
theorem Evx.mono {α : Type} {g : Nat → Option α} {P Q : α → Prop} (h : Evx g P) (k : ∀ r, P r → Q r) : Evx g Q := by
  obtain ⟨r, hr, p⟩ := h
  exact ⟨r, hr, k r p⟩
theorem Evx.law {g : Nat → Option Bool} (h : Evx g (fun r => r = true)) : ∃ k, g k = some true := by
  obtain ⟨r, hr, rfl⟩ := h
  exact hr.rounds
theorem Evx.of {α : Type} {g : Nat → Option α} {r : α} {P : α → Prop} (hg : ∀ k, LeO (g k) (g (k + 1))) {k : Nat} (h : g k = some r) (p : P r) : Evx g P := ⟨r, Ev.of hg h, p⟩

/-- All are bytes. -/
def Byt (l : List Int) : Prop := ∀ x ∈ l, 0 ≤ x ∧ x ≤ 255
theorem byt_wf {l : List Int} (h : ∀ x ∈ l, (Lit.int .u8 x).wf = true) : Byt l := by
  intro x hx
  have := h x hx
  simp [Lit.wf, IntKind.min, IntKind.max, IntKind.signed, IntKind.bits] at this
  omega
theorem byt_rd {l : List Int} (h : Byt l) (i : Int) : 0 ≤ rd l i ∧ rd l i ≤ 255 := by
  unfold rd
  by_cases hi : i.toNat < l.length
  · rw [List.getD_eq_getElem?_getD, List.getElem?_eq_getElem hi]; exact h _ (List.getElem_mem hi)
  · rw [List.getD_eq_getElem?_getD, List.getElem?_eq_none (by omega)]; simp
theorem xor_nn {x y : Int} (hx : 0 ≤ x) (hx1 : x < 4611686018427387904) (hy : 0 ≤ y) (hy1 : y < 4611686018427387904) : 0 ≤ Go.bits .xor .i64 x y := by
  obtain ⟨a, rfl⟩ := Int.eq_ofNat_of_zero_le hx
  obtain ⟨b, rfl⟩ := Int.eq_ofNat_of_zero_le hy
  have ha : a < 2 ^ 62 := by omega
  have hb : b < 2 ^ 62 := by omega
  have hc := Nat.xor_lt_two_pow ha hb
  unfold Go.bits
  simp only [BitVec.ofInt_natCast, BitVec.toNat_xor, BitVec.toNat_ofNat]
  rw [IntKind.wrap_i64]
  have e : IntKind.i64.bits = 64 := rfl
  rw [e, Nat.mod_eq_of_lt (by omega), Nat.mod_eq_of_lt (by omega)]
  omega

theorem impl_in_eq (a b c : Int) : impl_in.f a b c = some (decide (b ≤ a ∧ a ≤ c)) := by
  unfold impl_in.f
  by_cases h : b ≤ a
  · rw [if_pos h]; simp [h]
  · rw [if_neg (by omega)]; simp [h]
theorem spec_in_eq (a b c : Int) : spec_l1In.f a b c = some (decide (b ≤ a ∧ a ≤ c)) := by
  unfold spec_l1In.f
  by_cases h : b ≤ a
  · rw [if_pos h]; simp [h]
  · rw [if_neg (by omega)]; simp [h]

/-- The marks that two have. -/
def Bt (a b : Int) : Int := (if a % 2 = 1 ∧ b % 2 = 1 then 1 else 0) + (if a / 2 % 2 = 1 ∧ b / 2 % 2 = 1 then 2 else 0) + (if a / 4 % 2 = 1 ∧ b / 4 % 2 = 1 then 4 else 0)
theorem of_fin {P : Int → Int → Prop} (h : ∀ a b : Fin 8, P (a.val : Int) (b.val : Int)) {a b : Int} (a0 : 0 ≤ a) (a1 : a ≤ 7) (b0 : 0 ≤ b) (b1 : b ≤ 7) : P a b := by
  obtain ⟨x, rfl⟩ := Int.eq_ofNat_of_zero_le a0
  obtain ⟨y, rfl⟩ := Int.eq_ofNat_of_zero_le b0
  exact h ⟨x, by omega⟩ ⟨y, by omega⟩
theorem both_dec : ∀ a b : Fin 8, spec_l17Both.f 5 (a.val : Int) (b.val : Int) = some (Bt a.val b.val) := by decide +kernel
theorem both_x {a b : Int} (a0 : 0 ≤ a) (a1 : a ≤ 7) (b0 : 0 ≤ b) (b1 : b ≤ 7) : Evx (fun k => spec_l17Both.f k a b) (fun r => r = Bt a b) :=
  Evx.of (spec_l17Both.mono a b) (of_fin (P := fun a b => spec_l17Both.f 5 a b = some (Bt a b)) both_dec a0 a1 b0 b1) rfl
theorem andnot_dec : ∀ a b : Fin 8, (Go.bits .andNot .i64 (b.val : Int) (a.val : Int) == 0) = decide (Bt a.val b.val = b.val) := by decide +kernel
theorem andnot_eq {a b : Int} (a0 : 0 ≤ a) (a1 : a ≤ 7) (b0 : 0 ≤ b) (b1 : b ≤ 7) : (Go.bits .andNot .i64 b a == 0) = decide (Bt a b = b) :=
  of_fin (P := fun a b => (Go.bits .andNot .i64 b a == 0) = decide (Bt a b = b)) andnot_dec a0 a1 b0 b1
/-- It is a watch. -/
def Wok (m t : Int) : Prop := (0 ≤ m ∧ m ≤ 7) ∧ (0 ≤ t ∧ t ≤ 7) ∧ Bt m t = t
instance (m t : Int) : Decidable (Wok m t) := by unfold Wok; infer_instance
theorem impl_WatchOk_eq (m t : Int) : impl_WatchOk.f m t = some (decide (Wok m t)) := by
  unfold impl_WatchOk.f
  simp only [impl_in_eq, Option.bind_some]
  by_cases h : 0 ≤ m ∧ m ≤ 7
  · rw [if_pos (by simpa using h)]
    by_cases h2 : 0 ≤ t ∧ t ≤ 7
    · rw [if_pos (by simpa using h2), andnot_eq h.1 h.2 h2.1 h2.2]; simp [Wok, h, h2]
    · rw [if_neg (by simpa using h2)]; simp [Wok, h, h2]
  · rw [if_neg (by simpa using h)]; simp [Wok, h]
theorem spec_WatchOk_x (m t : Int) : Evx (fun k => spec_WatchOk.f k m t) (fun r => r = decide (Wok m t)) := by
  unfold spec_WatchOk.f
  simp only [spec_in_eq, Option.bind_some]
  refine Evx.ite (fun h => Evx.ite (fun h2 => ?_) (fun h2 => Evx.now ?_)) (fun h => Evx.now ?_)
  · have h : 0 ≤ m ∧ m ≤ 7 := by simpa using h
    have h2 : 0 ≤ t ∧ t ≤ 7 := by simpa using h2
    refine Evx.bind (both_x h.1 h.2 h2.1 h2.2) fun r hr => Evx.now ?_
    subst hr
    simp [Wok, h, h2]
    rw [Bool.eq_iff_iff]; simp
  · have h2 : ¬ (0 ≤ t ∧ t ≤ 7) := by simpa using h2
    exact (decide_eq_false (fun q => h2 q.2.1)).symm
  · have h : ¬ (0 ≤ m ∧ m ≤ 7) := by simpa using h
    exact (decide_eq_false (fun q => h q.1)).symm
theorem bt_zero (m : Int) : Bt m 0 = 0 := by simp [Bt]
theorem bt_self {m : Int} (h0 : 0 ≤ m) (h1 : m ≤ 7) : Bt m m = m := by unfold Bt; omega

theorem FnExactWatchOk : Go.Proofs.Ytkhjpkholpclhaa.ShpFnExactWatchOk.Pure := by
  intro m t _ _
  suffices h : Evx (fun k => laws_FnExactWatchOk.f k m t) (fun r => r = true) from Evx.law h
  unfold laws_FnExactWatchOk.f laws_toWatch.f
  simp only [impl_WatchOk_eq, Option.bind_some]
  refine Evx.bind (spec_WatchOk_x _ _) fun r hr => ?_
  subst hr
  exact Evx.neg (by simp) (Evx.now rfl)

end Go.Proofs.Ytkhjpkholpclhaa.Pure
