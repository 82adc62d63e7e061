/- The plain statement of FnExactNameOk: for all arguments, the law's function comes to true; there is no condition beyond those it names. -/
import Derived.Test.YtmgnmgobibpjjaaShpFnExactNameOk
set_option linter.unusedVariables false
set_option linter.unusedSimpArgs false
set_option maxRecDepth 100000
namespace Go.Proofs.Ytmgnmgobibpjjaa.Pure
open Go.RowKit Go.Proofs.Ytmgnmgobibpjjaa.GFnExactNameOk Go.Proofs.YtmgnmgobibpjjaaU.PrintWords Go.Proofs.YtmgnmgobibpjjaaU.PrintLast Go.Proofs.YtmgnmgobibpjjaaU.PrintMore

theorem w64 {x : Int} (h0 : -9223372036854775808 ≤ x) (h1 : x ≤ 9223372036854775807) : wrap64 x = x := by unfold wrap64; omega

/-- It comes to an answer of which P holds. -/
def Evx {α : Type} (g : Nat → Option α) (P : α → Prop) : Prop := ∃ r, Ev g r ∧ P r
theorem Evx.bind {α β : Type} {g : Nat → Option α} {f : Nat → α → Option β} {P : α → Prop} {Q : β → Prop} (h : Evx g P) (k : ∀ a, P a → Evx (fun n => f n a) Q) : Evx (fun n => (g n).bind (f n)) Q := by
  obtain ⟨a, ha, pa⟩ := h
  obtain ⟨r, hr, qr⟩ := k a pa
  exact ⟨r, Ev.bind ha hr, qr⟩
theorem Evx.now {α : Type} {P : α → Prop} {r : α} (h : P r) : Evx (fun _ => some r) P := ⟨r, Ev.now r, h⟩
theorem Evx.pos {α : Type} {c : Prop} [Decidable c] {f g : Nat → Option α} {P : α → Prop} (hc : c) (h : Evx f P) : Evx (fun n => if c then f n else g n) P := by
  simp only [if_pos hc]; exact h
theorem Evx.neg {α : Type} {c : Prop} [Decidable c] {f g : Nat → Option α} {P : α → Prop} (hc : ¬ c) (h : Evx g P) : Evx (fun n => if c then f n else g n) P := by
  simp only [if_neg hc]; exact h
theorem Evx.ite {α : Type} {c : Prop} [Decidable c] {f g : Nat → Option α} {P : α → Prop} (h : c → Evx f P) (k : ¬ c → Evx g P) : Evx (fun n => if c then f n else g n) P := by
  by_cases hc : c
  · exact Evx.pos hc (h hc)
  · exact Evx.neg hc (k hc)
theorem Evx.step {α : Type} {g f : Nat → Option α} {P : α → Prop} (h : ∀ k, g (k + 1) = f k) (k : Evx f P) : Evx g P := by
  obtain ⟨r, hr, p⟩ := k
  exact ⟨r, Ev.step h hr, p⟩
theorem Evx.mono {α : Type} {g : Nat → Option α} {P Q : α → Prop} (h : Evx g P) (k : ∀ r, P r → Q r) : Evx g Q := by
  obtain ⟨r, hr, p⟩ := h
  exact ⟨r, hr, k r p⟩
theorem Evx.law {g : Nat → Option Bool} (h : Evx g (fun r => r = true)) : ∃ k, g k = some true := by
  obtain ⟨r, hr, rfl⟩ := h
  exact hr.rounds
theorem Evx.of {α : Type} {g : Nat → Option α} {r : α} {P : α → Prop} (hg : ∀ k, LeO (g k) (g (k + 1))) {k : Nat} (h : g k = some r) (p : P r) : Evx g P := ⟨r, Ev.of hg h, p⟩

/-- All are bytes. -/
def Byt (l : List Int) : Prop := ∀ x ∈ l, 0 ≤ x ∧ x ≤ 255
theorem byt_wf {l : List Int} (h : ∀ x ∈ l, (Lit.int .u8 x).wf = true) : Byt l := by
  intro x hx
  have := h x hx
  simp [Lit.wf, IntKind.min, IntKind.max, IntKind.signed, IntKind.bits] at this
  omega
theorem byt_rd {l : List Int} (h : Byt l) (i : Int) : 0 ≤ rd l i ∧ rd l i ≤ 255 := by
  unfold rd
  by_cases hi : i.toNat < l.length
  · rw [List.getD_eq_getElem?_getD, List.getElem?_eq_getElem hi]; exact h _ (List.getElem_mem hi)
  · rw [List.getD_eq_getElem?_getD, List.getElem?_eq_none (by omega)]; simp
theorem xor_nn {x y : Int} (hx : 0 ≤ x) (hx1 : x < 4611686018427387904) (hy : 0 ≤ y) (hy1 : y < 4611686018427387904) : 0 ≤ Go.bits .xor .i64 x y := by
  obtain ⟨a, rfl⟩ := Int.eq_ofNat_of_zero_le hx
  obtain ⟨b, rfl⟩ := Int.eq_ofNat_of_zero_le hy
  have ha : a < 2 ^ 62 := by omega
  have hb : b < 2 ^ 62 := by omega
  have hc := Nat.xor_lt_two_pow ha hb
  unfold Go.bits
  simp only [BitVec.ofInt_natCast, BitVec.toNat_xor, BitVec.toNat_ofNat]
  rw [IntKind.wrap_i64]
  have e : IntKind.i64.bits = 64 := rfl
  rw [e, Nat.mod_eq_of_lt (by omega), Nat.mod_eq_of_lt (by omega)]
  omega

theorem impl_in_eq (a b c : Int) : impl_in.f a b c = some (decide (b ≤ a ∧ a ≤ c)) := by
  unfold impl_in.f
  by_cases h : b ≤ a
  · rw [if_pos h]; simp [h]
  · rw [if_neg (by omega)]; simp [h]
theorem spec_in_eq (a b c : Int) : spec_l1In.f a b c = some (decide (b ≤ a ∧ a ≤ c)) := by
  unfold spec_l1In.f
  by_cases h : b ≤ a
  · rw [if_pos h]; simp [h]
  · rw [if_neg (by omega)]; simp [h]

theorem rd_drop {l : List Int} {i : Int} (h0 : 0 ≤ i) (h1 : i < l.length) : l.drop i.toNat = rd l i :: l.drop (i + 1).toNat := by
  have hi : i.toNat < l.length := by omega
  rw [List.drop_eq_getElem_cons hi]
  unfold rd
  rw [List.getD_eq_getElem?_getD, List.getElem?_eq_getElem hi]
  have : (i + 1).toNat = i.toNat + 1 := by omega
  rw [this]; rfl
/-- A small letter. -/
def Ltr (b : Int) : Bool := decide (97 ≤ b) && decide (b ≤ 122)
/-- A text of a name. -/
def TextR (s : ByteArray) : Bool := (bytesOf s).all Ltr && decide (1 ≤ (s.size : Int) ∧ (s.size : Int) ≤ 12)
theorem all_cons {b : Int} {l : List Int} : (b :: l).all Ltr = (Ltr b && l.all Ltr) := rfl
theorem spec_text_l {s : ByteArray} (hm : (s.size : Int) ≤ 1000000000) (d : Nat) : ∀ i : Int, 0 ≤ i → i ≤ s.size → s.size - i = d →
    Evx (fun k => spec_l19Word.l0 k s i) (fun r => r = (((bytesOf s).drop i.toNat).all Ltr && decide (1 ≤ (s.size : Int) ∧ (s.size : Int) ≤ 12))) := by
  have hl := bytesOf_length s
  induction d with
  | zero =>
    intro i i0 i1 hd
    refine Evx.step (fun k => by rw [spec_l19Word.l0]) (Evx.neg (by omega) ?_)
    simp only [spec_in_eq, Option.bind_some]
    refine Evx.now ?_
    rw [List.drop_of_length_le (by omega)]; rfl
  | succ d ih =>
    intro i i0 i1 hd
    have e : wrap64 (i + 1) = i + 1 := by unfold wrap64; omega
    refine Evx.step (fun k => by rw [spec_l19Word.l0]) (Evx.pos (by omega) (Evx.pos i0 ?_))
    rw [e, ← rd_bytesOf, rd_drop i0 (by omega), all_cons]
    refine Evx.ite (fun h => Evx.now ?_) (fun h => Evx.ite (fun h2 => Evx.now ?_) (fun h2 => ?_))
    · unfold Ltr; rw [decide_eq_false (show ¬ 97 ≤ rd (bytesOf s) i by omega)]; simp
    · unfold Ltr; rw [decide_eq_false (show ¬ rd (bytesOf s) i ≤ 122 by omega)]; simp
    · have hL : Ltr (rd (bytesOf s) i) = true := by unfold Ltr; simp; omega
      rw [hL, Bool.true_and]
      exact ih _ (by omega) (by omega) (by omega)
theorem spec_text_x {s : ByteArray} (hm : (s.size : Int) ≤ 1000000000) : Evx (fun k => spec_l19Word.f k s) (fun r => r = TextR s) := by
  unfold spec_l19Word.f
  exact spec_text_l hm s.size 0 (by omega) (by omega) (by omega)
theorem impl_text_l {s : ByteArray} (hm : (s.size : Int) ≤ 1000000000) (d : Nat) : ∀ i : Int, 0 ≤ i → i ≤ s.size → s.size - i = d →
    Evx (fun k => impl_textOk.l0 k s (bytesOf s) (s.size : Int) i) (fun r => r = (((bytesOf s).drop i.toNat).all Ltr && decide (1 ≤ (s.size : Int) ∧ (s.size : Int) ≤ 12))) := by
  have hl := bytesOf_length s
  induction d with
  | zero =>
    intro i i0 i1 hd
    refine Evx.step (fun k => by rw [impl_textOk.l0]) (Evx.neg (by omega) ?_)
    simp only [impl_in_eq, Option.bind_some]
    refine Evx.now ?_
    rw [List.drop_of_length_le (by omega)]; rfl
  | succ d ih =>
    intro i i0 i1 hd
    have e : wrap64 (i + 1) = i + 1 := by unfold wrap64; omega
    refine Evx.step (fun k => by rw [impl_textOk.l0]) (Evx.pos (by omega) (Evx.pos i0 (Evx.pos (by omega) ?_)))
    rw [e, rd_drop i0 (by omega), all_cons]
    refine Evx.ite (fun h => Evx.now ?_) (fun h => Evx.ite (fun h2 => Evx.now ?_) (fun h2 => ?_))
    · unfold Ltr; rw [decide_eq_false (show ¬ 97 ≤ rd (bytesOf s) i by omega)]; simp
    · unfold Ltr; rw [decide_eq_false (show ¬ rd (bytesOf s) i ≤ 122 by omega)]; simp
    · have hL : Ltr (rd (bytesOf s) i) = true := by unfold Ltr; simp; omega
      rw [hL, Bool.true_and]
      exact ih _ (by omega) (by omega) (by omega)
theorem impl_text_x {s : ByteArray} (hm : (s.size : Int) ≤ 1000000000) : Evx (fun k => impl_textOk.f k s) (fun r => r = TextR s) := by
  unfold impl_textOk.f
  simp only [Option.bind_some, List.nil_append]
  rw [bytesOf_length]
  exact Evx.pos (by simp; omega) (impl_text_l hm s.size 0 (by omega) (by omega) (by omega))
/-- A name. -/
def NameR (t : ByteArray) (k a : Int) (al : ByteArray) (tm : Int) : Bool :=
  TextR t && decide (1 ≤ tm ∧ tm ≤ 50) && (if k = 0 then decide (a = 0) && (al.toList == ([] : List UInt8)) else if k = 1 then decide (0 ≤ a ∧ a ≤ 65535) && (al.toList == ([] : List UInt8)) else if k = 2 then decide (a = 0) && TextR al else false)
theorem spec_name_x {t al : ByteArray} (k a tm : Int) (ht : (t.size : Int) ≤ 1000000000) (hal : (al.size : Int) ≤ 1000000000) : Evx (fun n => spec_NameOk.f n t k a al tm) (fun r => r = NameR t k a al tm) := by
  unfold spec_NameOk.f
  simp only [spec_in_eq, Option.bind_some]
  refine Evx.bind (spec_text_x ht) fun r1 e1 => ?_
  unfold NameR
  rw [← e1]
  refine Evx.ite (fun h => ?_) (fun h => ?_)
  · rw [h]
    by_cases c : 1 ≤ tm ∧ tm ≤ 50
    · rw [decide_eq_true c]
      refine Evx.step (fun k => by rw [spec_NameOk.j0]) (Evx.neg (by simp) ?_)
      refine Evx.ite (fun h1 => ?_) (fun h1 => Evx.ite (fun h2 => ?_) (fun h2 => Evx.ite (fun h3 => ?_) (fun h3 => ?_)))
      · simp only [spec_in_eq, Option.bind_some]
        refine Evx.ite (fun q => Evx.now ?_) (fun q => Evx.now ?_)
        · rw [if_neg (by omega), if_pos h1, q]; simp
        · have q : decide (0 ≤ a ∧ a ≤ 65535) = false := by simpa using q
          rw [if_neg (by omega), if_pos h1, q]; simp
      · refine Evx.ite (fun q => ?_) (fun q => Evx.now ?_)
        · refine Evx.bind (spec_text_x hal) fun r2 e2 => Evx.now ?_
          rw [if_neg (by omega), if_neg (by omega), if_pos h2, decide_eq_true q, e2]; simp
        · rw [if_neg (by omega), if_neg (by omega), if_pos h2, decide_eq_false q]; simp
      · refine Evx.ite (fun q => Evx.now ?_) (fun q => Evx.now ?_)
        · rw [if_pos h3, decide_eq_true q]; simp
        · rw [if_pos h3, decide_eq_false q]; simp
      · refine Evx.now ?_
        rw [if_neg h3, if_neg h1, if_neg h2]; simp
    · rw [decide_eq_false c]
      exact Evx.step (fun k => by rw [spec_NameOk.j0]) (Evx.pos (by simp) (Evx.now (by simp)))
  · have h : r1 = false := by simpa using h
    rw [h]
    exact Evx.step (fun k => by rw [spec_NameOk.j0]) (Evx.pos (by simp) (Evx.now (by simp)))
theorem impl_name_x {t al : ByteArray} (k a tm : Int) (ht : (t.size : Int) ≤ 1000000000) (hal : (al.size : Int) ≤ 1000000000) : Evx (fun n => impl_NameOk.f n t k a al tm) (fun r => r = NameR t k a al tm) := by
  unfold impl_NameOk.f
  simp only [impl_in_eq, Option.bind_some]
  refine Evx.bind (impl_text_x ht) fun r1 e1 => ?_
  unfold NameR
  rw [← e1]
  refine Evx.ite (fun h => ?_) (fun h => ?_)
  · rw [h]
    by_cases c : 1 ≤ tm ∧ tm ≤ 50
    · rw [decide_eq_true c]
      refine Evx.step (fun k => by rw [impl_NameOk.j0]) (Evx.neg (by simp) ?_)
      refine Evx.ite (fun h3 => ?_) (fun h3 => Evx.ite (fun h1 => ?_) (fun h1 => Evx.ite (fun h2 => ?_) (fun h2 => ?_)))
      · refine Evx.ite (fun q => Evx.now ?_) (fun q => Evx.now ?_)
        · rw [if_pos h3, decide_eq_true q]; simp
        · rw [if_pos h3, decide_eq_false q]; simp
      · have hw : impl_word.f a = some (decide (0 ≤ a ∧ a ≤ 65535)) := by unfold impl_word.f; rw [impl_in_eq]; rfl
        rw [hw]; simp only [Option.bind_some]
        refine Evx.ite (fun q => Evx.now ?_) (fun q => Evx.now ?_)
        · rw [if_neg (by omega), if_pos h1, q]; simp
        · have q : decide (0 ≤ a ∧ a ≤ 65535) = false := by simpa using q
          rw [if_neg (by omega), if_pos h1, q]; simp
      · refine Evx.ite (fun q => ?_) (fun q => Evx.now ?_)
        · refine Evx.bind (impl_text_x hal) fun r2 e2 => Evx.now ?_
          rw [if_neg (by omega), if_neg (by omega), if_pos h2, decide_eq_true q, e2]; simp
        · rw [if_neg (by omega), if_neg (by omega), if_pos h2, decide_eq_false q]; simp
      · refine Evx.now ?_
        rw [if_neg h3, if_neg h1, if_neg h2]; simp
    · rw [decide_eq_false c]
      exact Evx.step (fun k => by rw [impl_NameOk.j0]) (Evx.pos (by simp) (Evx.now (by simp)))
  · have h : r1 = false := by simpa using h
    rw [h]
    exact Evx.step (fun k => by rw [impl_NameOk.j0]) (Evx.pos (by simp) (Evx.now (by simp)))

theorem FnExactNameOk : Go.Proofs.Ytmgnmgobibpjjaa.ShpFnExactNameOk.Pure := by
  intro t k a al tm ht hk ha hal htm
  refine Evx.law (g := fun f => laws_FnExactNameOk.f f t k a al tm) ?_
  unfold laws_FnExactNameOk.f laws_szName.f laws_toName.f
  simp only [Option.bind_some]
  unfold maxLen at ht hal
  by_cases c1 : wrap64 (1048576 - (t.size : Int)) < 0
  · rw [if_pos c1]; simp only [Option.bind_some]; exact Evx.pos (by omega) (Evx.now rfl)
  · rw [if_neg c1]
    have e1 : wrap64 (1048576 - (t.size : Int)) = 1048576 - t.size := by unfold wrap64; omega
    rw [e1] at c1 ⊢
    by_cases c2 : wrap64 (1048576 - (t.size : Int) - (al.size : Int)) < 0
    · rw [if_pos c2]; simp only [Option.bind_some]; exact Evx.pos (by omega) (Evx.now rfl)
    · rw [if_neg c2]
      have e2 : wrap64 (1048576 - (t.size : Int) - (al.size : Int)) = 1048576 - t.size - al.size := by unfold wrap64; omega
      rw [e2] at c2 ⊢
      refine Evx.neg (by omega) ?_
      refine Evx.bind (spec_name_x k a tm (by omega) (by omega)) fun r1 e1 => ?_
      refine Evx.bind (impl_name_x k a tm (by omega) (by omega)) fun r2 e2 => ?_
      subst e1 e2
      exact Evx.neg (by simp) (Evx.now rfl)

end Go.Proofs.Ytmgnmgobibpjjaa.Pure
