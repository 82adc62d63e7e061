/- The plain statement of FnExactKeptFind: for all arguments, the law's function comes to true; there is no condition beyond those it names. -/
import Derived.Test.YtmgnmgobibpjjaaShpFnExactKeptFind
set_option linter.unusedVariables false
set_option linter.unusedSimpArgs false
set_option maxRecDepth 100000
namespace Go.Proofs.Ytmgnmgobibpjjaa.Pure
open Go.RowKit Go.Proofs.Ytmgnmgobibpjjaa.GFnExactKeptFind Go.Proofs.YtmgnmgobibpjjaaVExactKeptFind.PrintWords Go.Proofs.YtmgnmgobibpjjaaVExactKeptFind.PrintLast Go.Proofs.YtmgnmgobibpjjaaVExactKeptFind.PrintMore

theorem w64 {x : Int} (h0 : -9223372036854775808 ≤ x) (h1 : x ≤ 9223372036854775807) : wrap64 x = x := by unfold wrap64; omega

/-- It comes to an answer of which P holds. -/
def Evx {α : Type} (g : Nat → Option α) (P : α → Prop) : Prop := ∃ r, Ev g r ∧ P r
theorem Evx.bind {α β : Type} {g : Nat → Option α} {f : Nat → α → Option β} {P : α → Prop} {Q : β → Prop} (h : Evx g P) (k : ∀ a, P a → Evx (fun n => f n a) Q) : Evx (fun n => (g n).bind (f n)) Q := by
  obtain ⟨a, ha, pa⟩ := h
  obtain ⟨r, hr, qr⟩ := k a pa
  exact ⟨r, Ev.bind ha hr, qr⟩
theorem Evx.now {α : Type} {P : α → Prop} {r : α} (h : P r) : Evx (fun _ => some r) P := ⟨r, Ev.now r, h⟩
theorem Evx.pos {α : Type} {c : Prop} [Decidable c] {f g : Nat → Option α} {P : α → Prop} (hc : c) (h : Evx f P) : Evx (fun n => if c then f n else g n) P := by
  simp only [if_pos hc]; exact h
theorem Evx.neg {α : Type} {c : Prop} [Decidable c] {f g : Nat → Option α} {P : α → Prop} (hc : ¬ c) (h : Evx g P) : Evx (fun n => if c then f n else g n) P := by
  simp only [if_neg hc]; exact h
theorem Evx.ite {α : Type} {c : Prop} [Decidable c] {f g : Nat → Option α} {P : α → Prop} (h : c → Evx f P) (k : ¬ c → Evx g P) : Evx (fun n => if c then f n else g n) P := by
  by_cases hc : c
  · exact Evx.pos hc (h hc)
  · exact Evx.neg hc (k hc)
theorem Evx.step {α : Type} {g f : Nat → Option α} {P : α → Prop} (h : ∀ k, g (k + 1) = f k) (k : Evx f P) : Evx g P := by
  obtain ⟨r, hr, p⟩ := k
  exact ⟨r, Ev.step h hr, p⟩
theorem Evx.mono {α : Type} {g : Nat → Option α} {P Q : α → Prop} (h : Evx g P) (k : ∀ r, P r → Q r) : Evx g Q := by
  obtain ⟨r, hr, p⟩ := h
  exact ⟨r, hr, k r p⟩
theorem Evx.law {g : Nat → Option Bool} (h : Evx g (fun r => r = true)) : ∃ k, g k = some true := by
  obtain ⟨r, hr, rfl⟩ := h
  exact hr.rounds
theorem Evx.of {α : Type} {g : Nat → Option α} {r : α} {P : α → Prop} (hg : ∀ k, LeO (g k) (g (k + 1))) {k : Nat} (h : g k = some r) (p : P r) : Evx g P := ⟨r, Ev.of hg h, p⟩

/-- All are bytes. -/
def Byt (l : List Int) : Prop := ∀ x ∈ l, 0 ≤ x ∧ x ≤ 255
theorem byt_wf {l : List Int} (h : ∀ x ∈ l, (Lit.int .u8 x).wf = true) : Byt l := by
  intro x hx
  have := h x hx
  simp [Lit.wf, IntKind.min, IntKind.max, IntKind.signed, IntKind.bits] at this
  omega
theorem byt_rd {l : List Int} (h : Byt l) (i : Int) : 0 ≤ rd l i ∧ rd l i ≤ 255 := by
  unfold rd
  by_cases hi : i.toNat < l.length
  · rw [List.getD_eq_getElem?_getD, List.getElem?_eq_getElem hi]; exact h _ (List.getElem_mem hi)
  · rw [List.getD_eq_getElem?_getD, List.getElem?_eq_none (by omega)]; simp
theorem xor_nn {x y : Int} (hx : 0 ≤ x) (hx1 : x < 4611686018427387904) (hy : 0 ≤ y) (hy1 : y < 4611686018427387904) : 0 ≤ Go.bits .xor .i64 x y := by
  obtain ⟨a, rfl⟩ := Int.eq_ofNat_of_zero_le hx
  obtain ⟨b, rfl⟩ := Int.eq_ofNat_of_zero_le hy
  have ha : a < 2 ^ 62 := by omega
  have hb : b < 2 ^ 62 := by omega
  have hc := Nat.xor_lt_two_pow ha hb
  unfold Go.bits
  simp only [BitVec.ofInt_natCast, BitVec.toNat_xor, BitVec.toNat_ofNat]
  rw [IntKind.wrap_i64]
  have e : IntKind.i64.bits = 64 := rfl
  rw [e, Nat.mod_eq_of_lt (by omega), Nat.mod_eq_of_lt (by omega)]
  omega

theorem impl_in_eq (a b c : Int) : impl_in.f a b c = some (decide (b ≤ a ∧ a ≤ c)) := by
  unfold impl_in.f
  by_cases h : b ≤ a
  · rw [if_pos h]; simp [h]
  · rw [if_neg (by omega)]; simp [h]
theorem spec_in_eq (a b c : Int) : spec_l1In.f a b c = some (decide (b ≤ a ∧ a ≤ c)) := by
  unfold spec_l1In.f
  by_cases h : b ≤ a
  · rw [if_pos h]; simp [h]
  · rw [if_neg (by omega)]; simp [h]

theorem rd_drop {l : List Int} {i : Int} (h0 : 0 ≤ i) (h1 : i < l.length) : l.drop i.toNat = rd l i :: l.drop (i + 1).toNat := by
  have hi : i.toNat < l.length := by omega
  rw [List.drop_eq_getElem_cons hi]
  unfold rd
  rw [List.getD_eq_getElem?_getD, List.getElem?_eq_getElem hi]
  have : (i + 1).toNat = i.toNat + 1 := by omega
  rw [this]; rfl
/-- A small letter. -/
def Ltr (b : Int) : Bool := decide (97 ≤ b) && decide (b ≤ 122)
/-- A text of a name. -/
def TextR (s : ByteArray) : Bool := (bytesOf s).all Ltr && decide (1 ≤ (s.size : Int) ∧ (s.size : Int) ≤ 12)
theorem all_cons {b : Int} {l : List Int} : (b :: l).all Ltr = (Ltr b && l.all Ltr) := rfl
theorem spec_text_l {s : ByteArray} (hm : (s.size : Int) ≤ 1000000000) (d : Nat) : ∀ i : Int, 0 ≤ i → i ≤ s.size → s.size - i = d →
    Evx (fun k => spec_l19Word.l0 k s i) (fun r => r = (((bytesOf s).drop i.toNat).all Ltr && decide (1 ≤ (s.size : Int) ∧ (s.size : Int) ≤ 12))) := by
  have hl := bytesOf_length s
  induction d with
  | zero =>
    intro i i0 i1 hd
    refine Evx.step (fun k => by rw [spec_l19Word.l0]) (Evx.neg (by omega) ?_)
    simp only [spec_in_eq, Option.bind_some]
    refine Evx.now ?_
    rw [List.drop_of_length_le (by omega)]; rfl
  | succ d ih =>
    intro i i0 i1 hd
    have e : wrap64 (i + 1) = i + 1 := by unfold wrap64; omega
    refine Evx.step (fun k => by rw [spec_l19Word.l0]) (Evx.pos (by omega) (Evx.pos i0 ?_))
    rw [e, ← rd_bytesOf, rd_drop i0 (by omega), all_cons]
    refine Evx.ite (fun h => Evx.now ?_) (fun h => Evx.ite (fun h2 => Evx.now ?_) (fun h2 => ?_))
    · unfold Ltr; rw [decide_eq_false (show ¬ 97 ≤ rd (bytesOf s) i by omega)]; simp
    · unfold Ltr; rw [decide_eq_false (show ¬ rd (bytesOf s) i ≤ 122 by omega)]; simp
    · have hL : Ltr (rd (bytesOf s) i) = true := by unfold Ltr; simp; omega
      rw [hL, Bool.true_and]
      exact ih _ (by omega) (by omega) (by omega)
theorem spec_text_x {s : ByteArray} (hm : (s.size : Int) ≤ 1000000000) : Evx (fun k => spec_l19Word.f k s) (fun r => r = TextR s) := by
  unfold spec_l19Word.f
  exact spec_text_l hm s.size 0 (by omega) (by omega) (by omega)
theorem impl_text_l {s : ByteArray} (hm : (s.size : Int) ≤ 1000000000) (d : Nat) : ∀ i : Int, 0 ≤ i → i ≤ s.size → s.size - i = d →
    Evx (fun k => impl_textOk.l0 k s (bytesOf s) (s.size : Int) i) (fun r => r = (((bytesOf s).drop i.toNat).all Ltr && decide (1 ≤ (s.size : Int) ∧ (s.size : Int) ≤ 12))) := by
  have hl := bytesOf_length s
  induction d with
  | zero =>
    intro i i0 i1 hd
    refine Evx.step (fun k => by rw [impl_textOk.l0]) (Evx.neg (by omega) ?_)
    simp only [impl_in_eq, Option.bind_some]
    refine Evx.now ?_
    rw [List.drop_of_length_le (by omega)]; rfl
  | succ d ih =>
    intro i i0 i1 hd
    have e : wrap64 (i + 1) = i + 1 := by unfold wrap64; omega
    refine Evx.step (fun k => by rw [impl_textOk.l0]) (Evx.pos (by omega) (Evx.pos i0 (Evx.pos (by omega) ?_)))
    rw [e, rd_drop i0 (by omega), all_cons]
    refine Evx.ite (fun h => Evx.now ?_) (fun h => Evx.ite (fun h2 => Evx.now ?_) (fun h2 => ?_))
    · unfold Ltr; rw [decide_eq_false (show ¬ 97 ≤ rd (bytesOf s) i by omega)]; simp
    · unfold Ltr; rw [decide_eq_false (show ¬ rd (bytesOf s) i ≤ 122 by omega)]; simp
    · have hL : Ltr (rd (bytesOf s) i) = true := by unfold Ltr; simp; omega
      rw [hL, Bool.true_and]
      exact ih _ (by omega) (by omega) (by omega)
theorem impl_text_x {s : ByteArray} (hm : (s.size : Int) ≤ 1000000000) : Evx (fun k => impl_textOk.f k s) (fun r => r = TextR s) := by
  unfold impl_textOk.f
  simp only [Option.bind_some, List.nil_append]
  rw [bytesOf_length]
  exact Evx.pos (by simp; omega) (impl_text_l hm s.size 0 (by omega) (by omega) (by omega))
/-- A name. -/
def NameR (t : ByteArray) (k a : Int) (al : ByteArray) (tm : Int) : Bool :=
  TextR t && decide (1 ≤ tm ∧ tm ≤ 50) && (if k = 0 then decide (a = 0) && (al.toList == ([] : List UInt8)) else if k = 1 then decide (0 ≤ a ∧ a ≤ 65535) && (al.toList == ([] : List UInt8)) else if k = 2 then decide (a = 0) && TextR al else false)
theorem spec_name_x {t al : ByteArray} (k a tm : Int) (ht : (t.size : Int) ≤ 1000000000) (hal : (al.size : Int) ≤ 1000000000) : Evx (fun n => spec_NameOk.f n t k a al tm) (fun r => r = NameR t k a al tm) := by
  unfold spec_NameOk.f
  simp only [spec_in_eq, Option.bind_some]
  refine Evx.bind (spec_text_x ht) fun r1 e1 => ?_
  unfold NameR
  rw [← e1]
  refine Evx.ite (fun h => ?_) (fun h => ?_)
  · rw [h]
    by_cases c : 1 ≤ tm ∧ tm ≤ 50
    · rw [decide_eq_true c]
      refine Evx.step (fun k => by rw [spec_NameOk.j0]) (Evx.neg (by simp) ?_)
      refine Evx.ite (fun h1 => ?_) (fun h1 => Evx.ite (fun h2 => ?_) (fun h2 => Evx.ite (fun h3 => ?_) (fun h3 => ?_)))
      · simp only [spec_in_eq, Option.bind_some]
        refine Evx.ite (fun q => Evx.now ?_) (fun q => Evx.now ?_)
        · rw [if_neg (by omega), if_pos h1, q]; simp
        · have q : decide (0 ≤ a ∧ a ≤ 65535) = false := by simpa using q
          rw [if_neg (by omega), if_pos h1, q]; simp
      · refine Evx.ite (fun q => ?_) (fun q => Evx.now ?_)
        · refine Evx.bind (spec_text_x hal) fun r2 e2 => Evx.now ?_
          rw [if_neg (by omega), if_neg (by omega), if_pos h2, decide_eq_true q, e2]; simp
        · rw [if_neg (by omega), if_neg (by omega), if_pos h2, decide_eq_false q]; simp
      · refine Evx.ite (fun q => Evx.now ?_) (fun q => Evx.now ?_)
        · rw [if_pos h3, decide_eq_true q]; simp
        · rw [if_pos h3, decide_eq_false q]; simp
      · refine Evx.now ?_
        rw [if_neg h3, if_neg h1, if_neg h2]; simp
    · rw [decide_eq_false c]
      exact Evx.step (fun k => by rw [spec_NameOk.j0]) (Evx.pos (by simp) (Evx.now (by simp)))
  · have h : r1 = false := by simpa using h
    rw [h]
    exact Evx.step (fun k => by rw [spec_NameOk.j0]) (Evx.pos (by simp) (Evx.now (by simp)))
theorem impl_name_x {t al : ByteArray} (k a tm : Int) (ht : (t.size : Int) ≤ 1000000000) (hal : (al.size : Int) ≤ 1000000000) : Evx (fun n => impl_NameOk.f n t k a al tm) (fun r => r = NameR t k a al tm) := by
  unfold impl_NameOk.f
  simp only [impl_in_eq, Option.bind_some]
  refine Evx.bind (impl_text_x ht) fun r1 e1 => ?_
  unfold NameR
  rw [← e1]
  refine Evx.ite (fun h => ?_) (fun h => ?_)
  · rw [h]
    by_cases c : 1 ≤ tm ∧ tm ≤ 50
    · rw [decide_eq_true c]
      refine Evx.step (fun k => by rw [impl_NameOk.j0]) (Evx.neg (by simp) ?_)
      refine Evx.ite (fun h3 => ?_) (fun h3 => Evx.ite (fun h1 => ?_) (fun h1 => Evx.ite (fun h2 => ?_) (fun h2 => ?_)))
      · refine Evx.ite (fun q => Evx.now ?_) (fun q => Evx.now ?_)
        · rw [if_pos h3, decide_eq_true q]; simp
        · rw [if_pos h3, decide_eq_false q]; simp
      · have hw : impl_word.f a = some (decide (0 ≤ a ∧ a ≤ 65535)) := by unfold impl_word.f; rw [impl_in_eq]; rfl
        rw [hw]; simp only [Option.bind_some]
        refine Evx.ite (fun q => Evx.now ?_) (fun q => Evx.now ?_)
        · rw [if_neg (by omega), if_pos h1, q]; simp
        · have q : decide (0 ≤ a ∧ a ≤ 65535) = false := by simpa using q
          rw [if_neg (by omega), if_pos h1, q]; simp
      · refine Evx.ite (fun q => ?_) (fun q => Evx.now ?_)
        · refine Evx.bind (impl_text_x hal) fun r2 e2 => Evx.now ?_
          rw [if_neg (by omega), if_neg (by omega), if_pos h2, decide_eq_true q, e2]; simp
        · rw [if_neg (by omega), if_neg (by omega), if_pos h2, decide_eq_false q]; simp
      · refine Evx.now ?_
        rw [if_neg h3, if_neg h1, if_neg h2]; simp
    · rw [decide_eq_false c]
      exact Evx.step (fun k => by rw [impl_NameOk.j0]) (Evx.pos (by simp) (Evx.now (by simp)))
  · have h : r1 = false := by simpa using h
    rw [h]
    exact Evx.step (fun k => by rw [impl_NameOk.j0]) (Evx.pos (by simp) (Evx.now (by simp)))

/-- The sizes of a name. -/
def Szd (x : S26) : Prop := (x.f0.size : Int) ≤ 1000000000 ∧ (x.f3.size : Int) ≤ 1000000000
theorem szd_rd {l : List S26} (h : ∀ x ∈ l, Szd x) {i : Int} (i0 : 0 ≤ i) (i1 : i < l.length) : Szd (rd_T26 l i) := by
  unfold rd_T26
  try unfold rdOf
  rw [List.getD_eq_getElem?_getD, List.getElem?_eq_getElem (show i.toNat < l.length by omega)]
  exact h _ (List.getElem_mem _)
theorem rdT_take {l : List S26} {i : Int} {k : Nat} (i0 : 0 ≤ i) (i1 : i < k) : rd_T26 (l.take k) i = rd_T26 l i := by
  unfold rd_T26
  try unfold rdOf
  rw [List.getD_eq_getElem?_getD, List.getD_eq_getElem?_getD, List.getElem?_take, if_pos (by omega)]
/-- The name at a place. -/
def NmR (x : S26) : Bool := NameR x.f0 x.f1 x.f2 x.f3 x.f4
/-- Names from a place on. -/
def NamesF (l : List S26) : Nat → Int → Bool
  | 0, _ => decide ((l.length : Int) ≤ 8)
  | d + 1, i => if NmR (rd_T26 l i) = true then (if (rd_T26 l i).f1 = 0 then false else if i > 0 then (if Op.bytesLess (rd_T26 l (i - 1)).f0.toList (rd_T26 l i).f0.toList = true then NamesF l d (i + 1) else false) else NamesF l d (i + 1)) else false
/-- Whether names are ok. -/
def NamesR (l : List S26) : Bool := NamesF l l.length 0
theorem spec_names_l {l : List S26} (hl : (l.length : Int) ≤ 100000000) (hs : ∀ x ∈ l, Szd x) (d : Nat) : ∀ i : Int, 0 ≤ i → i ≤ l.length → l.length - i = d → Evx (fun k => spec_NamesOk.l0 k l i) (fun r => r = NamesF l d i) := by
  induction d with
  | zero =>
    intro i i0 i1 hd
    refine Evx.step (fun k => by rw [spec_NamesOk.l0]) ?_
    exact Evx.neg (by omega) (Evx.now rfl)
  | succ d ih =>
    intro i i0 i1 hd
    have e : wrap64 (i + 1) = i + 1 := by unfold wrap64; omega
    have e1 : wrap64 (i - 1) = i - 1 := by unfold wrap64; omega
    have hz := szd_rd hs i0 (by omega : i < l.length)
    refine Evx.step (fun k => by rw [spec_NamesOk.l0]) (Evx.pos (by omega) (Evx.pos i0 ?_))
    refine Evx.bind (spec_name_x _ _ _ hz.1 hz.2) fun r1 hr => ?_
    rw [e, e1]
    unfold NamesF NmR
    rw [← hr]
    refine Evx.ite (fun h => ?_) (fun h => ?_)
    · rw [if_pos h]
      refine Evx.ite (fun h => ?_) (fun h => ?_)
      · rw [if_pos h]; exact Evx.now rfl
      · rw [if_neg h]
        refine Evx.ite (fun h => ?_) (fun h => ?_)
        · rw [if_pos h]
          refine Evx.pos (by omega) (Evx.pos (by omega) ?_)
          refine Evx.ite (fun h => ?_) (fun h => ?_)
          · rw [if_pos h]; exact ih _ (by omega) (by omega) (by omega)
          · rw [if_neg h]; exact Evx.now rfl
        · rw [if_neg h]; exact ih _ (by omega) (by omega) (by omega)
    · rw [if_neg h]; exact Evx.now rfl
theorem spec_names_x {l : List S26} (hl : (l.length : Int) ≤ 100000000) (hs : ∀ x ∈ l, Szd x) : Evx (fun k => spec_NamesOk.f k l) (fun r => r = NamesR l) := by
  unfold spec_NamesOk.f NamesR
  exact spec_names_l hl hs l.length 0 (by omega) (by omega) (by omega)

theorem impl_names_l {l : List S26} (hl : (l.length : Int) ≤ 100000000) (hs : ∀ x ∈ l, Szd x) (d : Nat) : ∀ i : Int, 0 ≤ i → i ≤ l.length → l.length - i = d → Evx (fun k => impl_NamesOk.l0 k l l (l.length : Int) i) (fun r => r = NamesF l d i) := by
  induction d with
  | zero =>
    intro i i0 i1 hd
    refine Evx.step (fun k => by rw [impl_NamesOk.l0]) ?_
    exact Evx.neg (by omega) (Evx.now rfl)
  | succ d ih =>
    intro i i0 i1 hd
    have e : wrap64 (i + 1) = i + 1 := by unfold wrap64; omega
    have e1 : wrap64 (i - 1) = i - 1 := by unfold wrap64; omega
    have hz := szd_rd hs i0 (by omega : i < l.length)
    refine Evx.step (fun k => by rw [impl_NamesOk.l0]) (Evx.pos (by omega) (Evx.pos i0 (Evx.pos (by omega) ?_)))
    refine Evx.bind (impl_name_x _ _ _ hz.1 hz.2) fun r1 hr => ?_
    rw [e, e1]
    unfold NamesF NmR
    rw [← hr]
    refine Evx.ite (fun h => ?_) (fun h => ?_)
    · rw [if_pos h]
      refine Evx.ite (fun h => ?_) (fun h => ?_)
      · rw [if_pos h]; exact Evx.now rfl
      · rw [if_neg h]
        refine Evx.ite (fun h => ?_) (fun h => ?_)
        · rw [if_pos h]
          refine Evx.pos (by omega) (Evx.pos (by omega) ?_)
          refine Evx.ite (fun h => ?_) (fun h => ?_)
          · rw [if_pos h]; exact ih _ (by omega) (by omega) (by omega)
          · rw [if_neg h]; exact Evx.now rfl
        · rw [if_neg h]; exact ih _ (by omega) (by omega) (by omega)
    · rw [if_neg h]; exact Evx.now rfl
theorem impl_names_x {l : List S26} (hl : (l.length : Int) ≤ 100000000) (hs : ∀ x ∈ l, Szd x) : Evx (fun k => impl_NamesOk.f k l) (fun r => r = NamesR l) := by
  unfold impl_NamesOk.f NamesR
  exact impl_names_l hl hs l.length 0 (by omega) (by omega) (by omega)

/-- A name of the law's own kind, as one of the program's. -/
def cv (x : S23) : S26 := ⟨x.f0, x.f1, x.f2, x.f3, x.f4⟩
theorem rd26_set {l : List S26} {i j : Int} {v : S26} (i0 : 0 ≤ i) (i1 : i < l.length) (j0 : 0 ≤ j) : rd_T26 (l.set i.toNat v) j = if i = j then v else rd_T26 l j := by
  have hi : i.toNat < l.length := by omega
  unfold rd_T26
  rw [List.getD_eq_getElem?_getD, List.getD_eq_getElem?_getD, List.getElem?_set]
  by_cases h : i = j
  · subst h; rw [if_pos rfl, if_pos hi, if_pos rfl]; rfl
  · rw [if_neg (by omega), if_neg h]
theorem to_l {l : List S23} (hl : (l.length : Int) ≤ 100000000) (d : Nat) : ∀ (x : List S26) (i : Int), x.length = l.length → 0 ≤ i → i ≤ l.length → l.length - i = d → (∀ j : Int, 0 ≤ j → j < i → rd_T26 x j = cv (rd_T23 l j)) →
    Evx (fun k => laws_toNameS.l0 k l x i) (fun r => r.length = l.length ∧ ∀ j : Int, 0 ≤ j → j < l.length → rd_T26 r j = cv (rd_T23 l j)) := by
  induction d with
  | zero =>
    intro x i hx i0 hi hd H
    refine Evx.step (fun k => by rw [laws_toNameS.l0]) ?_
    exact Evx.neg (by omega) (Evx.now ⟨hx, fun j j0 j1 => H j j0 (by omega)⟩)
  | succ d ih =>
    intro x i hx i0 hi hd H
    have e1 : wrap64 (i + 1) = i + 1 := by unfold wrap64; omega
    refine Evx.step (fun k => by rw [laws_toNameS.l0]) (Evx.pos (by omega) (Evx.pos i0 ?_))
    unfold laws_toName.f
    simp only [Option.bind_some]
    rw [e1]
    refine Evx.pos (by omega) (ih _ _ (by simp [hx]) (by omega) (by omega) (by omega) fun j j0 j1 => ?_)
    rw [rd26_set i0 (by omega) j0]
    by_cases h : i = j
    · rw [if_pos h, ← h]; rfl
    · rw [if_neg h]; exact H j j0 (by omega)
theorem to_x {l : List S23} (hl : (l.length : Int) ≤ 100000000) : Evx (fun k => laws_toNameS.f k l) (fun r => r = l.map cv) := by
  unfold laws_toNameS.f
  refine Evx.pos (by omega) (Evx.pos (by omega) ?_)
  refine (to_l hl l.length _ 0 (by simp) (by omega) (by omega) (by omega) (fun j j0 j1 => by omega)).mono fun r hr => ?_
  apply List.ext_getElem?
  intro j
  rcases Nat.lt_or_ge j l.length with q | q
  · have h := hr.2 (j : Int) (by omega) (by omega)
    unfold rd_T26 rd_T23 at h
    rw [Int.toNat_natCast, List.getD_eq_getElem?_getD, List.getD_eq_getElem?_getD, List.getElem?_eq_getElem (show j < r.length by omega), List.getElem?_eq_getElem q] at h
    rw [List.getElem?_eq_getElem (show j < r.length by omega), List.getElem?_map, List.getElem?_eq_getElem q]
    exact congrArg some h
  · rw [List.getElem?_eq_none (by omega), List.getElem?_eq_none (by simpa using q)]
theorem eq_l {l : List S26} (hl : (l.length : Int) ≤ 100000000) (d : Nat) : ∀ i : Int, 0 ≤ i → i ≤ l.length → l.length - i = d →
    Evx (fun k => laws_eqNameS.l0 k l l i) (fun r => r = true) := by
  induction d with
  | zero =>
    intro i i0 hi hd
    refine Evx.step (fun k => by rw [laws_eqNameS.l0]) ?_
    exact Evx.neg (by omega) (Evx.now rfl)
  | succ d ih =>
    intro i i0 hi hd
    have e : wrap64 (i + 1) = i + 1 := by unfold wrap64; omega
    refine Evx.step (fun k => by rw [laws_eqNameS.l0]) (Evx.pos (by omega) (Evx.pos i0 (Evx.pos (by omega) ?_)))
    have he : ∀ x : S26, laws_eqName.f x.f0 x.f1 x.f2 x.f3 x.f4 x.f0 x.f1 x.f2 x.f3 x.f4 = some true := by intro x; unfold laws_eqName.f; simp
    rw [he, e]
    simp only [Option.bind_some]
    exact Evx.pos trivial (ih _ (by omega) (by omega) (by omega))
theorem eq_x {l : List S26} (hl : (l.length : Int) ≤ 100000000) : Evx (fun k => laws_eqNameS.f k l l) (fun r => r = true) := by
  unfold laws_eqNameS.f
  exact Evx.pos rfl (eq_l hl l.length 0 (by omega) (by omega) (by omega))
theorem sz_l {l : List S23} (hl : (l.length : Int) ≤ 100000000) (hw : ∀ x ∈ l, x.f0.size ≤ maxLen ∧ x.f3.size ≤ maxLen) (d : Nat) : ∀ (i a : Int), 0 ≤ i → i ≤ l.length → l.length - i = d → 0 ≤ a → a ≤ 1048576 →
    Evx (fun k => laws_szNameS.l0 k l a i) (fun r => r < 0 ∨ ∀ j : Int, i ≤ j → j < l.length → Szd (cv (rd_T23 l j))) := by
  induction d with
  | zero =>
    intro i a i0 hi hd a0 a1
    refine Evx.step (fun k => by rw [laws_szNameS.l0]) ?_
    exact Evx.neg (by omega) (Evx.now (.inr fun j h1 h2 => by omega))
  | succ d ih =>
    intro i a i0 hi hd a0 a1
    have e : wrap64 (i + 1) = i + 1 := by unfold wrap64; omega
    have hm : rd_T23 l i ∈ l := by
      unfold rd_T23
      rw [List.getD_eq_getElem?_getD, List.getElem?_eq_getElem (show i.toNat < l.length by omega)]
      exact List.getElem_mem _
    obtain ⟨w0, w3⟩ := hw _ hm
    unfold maxLen at w0 w3
    refine Evx.step (fun k => by rw [laws_szNameS.l0]) (Evx.pos (by omega) (Evx.pos i0 ?_))
    unfold laws_szName.f
    rw [e]
    generalize hx : rd_T23 l i = x at hm w0 w3 ⊢
    by_cases c1 : wrap64 (a - (x.f0.size : Int)) < 0
    · rw [if_pos c1]; simp only [Option.bind_some]; exact Evx.pos (by omega) (Evx.now (.inl (by omega)))
    · rw [if_neg c1]
      have e1 : wrap64 (a - (x.f0.size : Int)) = a - x.f0.size := by unfold wrap64; omega
      rw [e1] at c1 ⊢
      by_cases c2 : wrap64 (a - (x.f0.size : Int) - (x.f3.size : Int)) < 0
      · rw [if_pos c2]; simp only [Option.bind_some]; exact Evx.pos (by omega) (Evx.now (.inl (by omega)))
      · rw [if_neg c2]
        have e2 : wrap64 (a - (x.f0.size : Int) - (x.f3.size : Int)) = a - x.f0.size - x.f3.size := by unfold wrap64; omega
        rw [e2] at c2 ⊢
        simp only [Option.bind_some]
        refine Evx.neg (by omega) ((ih (i + 1) _ (by omega) (by omega) (by omega) (by omega) (by omega)).mono fun r hr => ?_)
        rcases hr with hr | hr
        · exact .inl hr
        · refine .inr fun j h1 h2 => ?_
          by_cases q : j = i
          · rw [q, hx]; exact ⟨by show (x.f0.size : Int) ≤ _; omega, by show (x.f3.size : Int) ≤ _; omega⟩
          · exact hr j (by omega) h2
theorem sz_x {l : List S23} (hm : l.length ≤ 9223372036854775807) (hw : ∀ x ∈ l, x.f0.size ≤ maxLen ∧ x.f3.size ≤ maxLen) {a : Int} (a0 : 0 ≤ a) (a1 : a ≤ 1048576) : Evx (fun f => laws_szNameS.f f l a) (fun r => r < 0 ∨ ((l.length : Int) ≤ 1048576 ∧ ∀ x ∈ l.map cv, Szd x)) := by
  unfold laws_szNameS.f
  refine Evx.ite (fun c => Evx.now (.inl (by omega))) (fun c => ?_)
  have e : wrap64 (a - (l.length : Int)) = a - l.length := by unfold wrap64; omega
  rw [e] at c ⊢
  refine (sz_l (by omega) hw l.length 0 _ (by omega) (by omega) (by omega) (by omega) (by omega)).mono fun r hr => hr.elim .inl (fun q => .inr ⟨by omega, ?_⟩)
  intro x hx
  obtain ⟨y, hy, rfl⟩ := List.mem_map.1 hx
  obtain ⟨j, hj, he⟩ := List.mem_iff_getElem.1 hy
  have := q (j : Int) (by omega) (by omega)
  unfold rd_T23 at this
  rw [Int.toNat_natCast, List.getD_eq_getElem?_getD, List.getElem?_eq_getElem hj] at this
  rw [← he]; exact this

/-- What holds of the name at a place among ok names. -/
def NmAt (l : List S26) (i : Int) : Prop := NmR (rd_T26 l i) = true ∧ (rd_T26 l i).f1 ≠ 0 ∧ (i > 0 → Op.bytesLess (rd_T26 l (i - 1)).f0.toList (rd_T26 l i).f0.toList = true)
theorem namesF_iff (l : List S26) (d : Nat) : ∀ i : Int, NamesF l d i = true ↔ (∀ j : Int, i ≤ j → j < i + d → NmAt l j) ∧ (l.length : Int) ≤ 8 := by
  induction d with
  | zero =>
    intro i
    unfold NamesF
    constructor
    · intro h; exact ⟨fun j h1 h2 => by omega, of_decide_eq_true h⟩
    · intro h; exact decide_eq_true h.2
  | succ d ih =>
    intro i
    unfold NamesF
    constructor
    · intro h
      have hn : NmAt l i ∧ NamesF l d (i + 1) = true := by
        by_cases c1 : NmR (rd_T26 l i) = true
        · rw [if_pos c1] at h
          by_cases c2 : (rd_T26 l i).f1 = 0
          · rw [if_pos c2] at h; exact absurd h (by simp)
          · rw [if_neg c2] at h
            by_cases c3 : i > 0
            · rw [if_pos c3] at h
              by_cases c4 : Op.bytesLess (rd_T26 l (i - 1)).f0.toList (rd_T26 l i).f0.toList = true
              · rw [if_pos c4] at h; exact ⟨⟨c1, c2, fun _ => c4⟩, h⟩
              · rw [if_neg c4] at h; exact absurd h (by simp)
            · rw [if_neg c3] at h; exact ⟨⟨c1, c2, fun q => absurd q c3⟩, h⟩
        · rw [if_neg c1] at h; exact absurd h (by simp)
      have h2 := (ih (i + 1)).1 hn.2
      refine ⟨fun j h3 h4 => ?_, h2.2⟩
      by_cases e : j = i
      · rw [e]; exact hn.1
      · exact h2.1 j (by omega) (by omega)
    · intro h
      have h1 := h.1 i (by omega) (by omega)
      have h2 := (ih (i + 1)).2 ⟨fun j h3 h4 => h.1 j (by omega) (by omega), h.2⟩
      rw [if_pos h1.1, if_neg h1.2.1]
      by_cases c3 : i > 0
      · rw [if_pos c3, if_pos (h1.2.2 c3)]; exact h2
      · rw [if_neg c3]; exact h2
theorem names_take {l : List S26} (h : NamesR l = true) (k : Nat) (hk : k ≤ l.length) : NamesR (l.take k) = true := by
  have h1 := (namesF_iff l l.length 0).1 h
  have hl : (l.take k).length = k := by rw [List.length_take]; omega
  refine (namesF_iff (l.take k) (l.take k).length 0).2 ⟨fun j j0 j1 => ?_, by omega⟩
  have h2 := h1.1 j j0 (by omega)
  unfold NmAt at h2 ⊢
  rw [rdT_take j0 (by omega)]
  refine ⟨h2.1, h2.2.1, fun q => ?_⟩
  rw [rdT_take (by omega) (by omega)]
  exact h2.2.2 q

/-- What a text stands for among names, from a place on. -/
def AskF (l : List S26) (s : ByteArray) : Nat → Int → ByteArray × Int × Int × ByteArray × Int
  | 0, _ => (s, 0, 0, (⟨#[]⟩ : ByteArray), 5)
  | d + 1, i => if (rd_T26 l i).f0.toList = s.toList then ((rd_T26 l i).f0, (rd_T26 l i).f1, (rd_T26 l i).f2, (rd_T26 l i).f3, (rd_T26 l i).f4) else AskF l s d (i + 1)
/-- What a text stands for among names. -/
def AskR (l : List S26) (s : ByteArray) : ByteArray × Int × Int × ByteArray × Int := AskF l s l.length 0
/-- The same with whether the names and the text are ok. -/
def NameAskR (l : List S26) (s : ByteArray) : ByteArray × Int × Int × ByteArray × Int × Bool :=
  if NamesR l = true ∧ TextR s = true then ((AskR l s).1, (AskR l s).2.1, (AskR l s).2.2.1, (AskR l s).2.2.2.1, (AskR l s).2.2.2.2, true) else ((⟨#[]⟩ : ByteArray), 0, 0, (⟨#[]⟩ : ByteArray), 0, false)

theorem impl_ask_l {l : List S26} (hl : (l.length : Int) ≤ 100000000) (s : ByteArray) (d : Nat) : ∀ i : Int, 0 ≤ i → i ≤ l.length → l.length - i = d → Evx (fun k => impl_ask.l0 k l s i) (fun r => r = AskF l s d i) := by
  induction d with
  | zero =>
    intro i i0 i1 hd
    refine Evx.step (fun k => by rw [impl_ask.l0]) ?_
    exact Evx.neg (by omega) (Evx.now rfl)
  | succ d ih =>
    intro i i0 i1 hd
    have e : wrap64 (i + 1) = i + 1 := by unfold wrap64; omega
    refine Evx.step (fun k => by rw [impl_ask.l0]) (Evx.pos (by omega) (Evx.pos i0 ?_))
    rw [e]
    unfold AskF
    refine Evx.ite (fun h => ?_) (fun h => ?_)
    · rw [if_pos h]; exact Evx.now rfl
    · rw [if_neg h]; exact ih _ (by omega) (by omega) (by omega)
theorem impl_ask_x {l : List S26} (hl : (l.length : Int) ≤ 100000000) (s : ByteArray) : Evx (fun k => impl_ask.f k l s) (fun r => r = AskR l s) := by
  unfold impl_ask.f AskR
  exact impl_ask_l hl s l.length 0 (by omega) (by omega) (by omega)

theorem spec_ask_l {l : List S26} (hl : (l.length : Int) ≤ 100000000) (s : ByteArray) (d : Nat) : ∀ i : Int, 0 ≤ i → i ≤ l.length → l.length - i = d → Evx (fun k => spec_NameAsk.l0 k l s i) (fun r => r = ((AskF l s d i).1, (AskF l s d i).2.1, (AskF l s d i).2.2.1, (AskF l s d i).2.2.2.1, (AskF l s d i).2.2.2.2, true)) := by
  induction d with
  | zero =>
    intro i i0 i1 hd
    refine Evx.step (fun k => by rw [spec_NameAsk.l0]) ?_
    exact Evx.neg (by omega) (Evx.now rfl)
  | succ d ih =>
    intro i i0 i1 hd
    have e : wrap64 (i + 1) = i + 1 := by unfold wrap64; omega
    refine Evx.step (fun k => by rw [spec_NameAsk.l0]) (Evx.pos (by omega) (Evx.pos i0 ?_))
    rw [e]
    unfold AskF
    refine Evx.ite (fun h => ?_) (fun h => ?_)
    · rw [if_pos h]; exact Evx.now rfl
    · rw [if_neg h]; exact ih _ (by omega) (by omega) (by omega)
theorem spec_nameask_x {l : List S26} (hl : (l.length : Int) ≤ 100000000) (hs : ∀ x ∈ l, Szd x) {s : ByteArray} (ht : (s.size : Int) ≤ 1000000000) : Evx (fun k => spec_NameAsk.f k l s) (fun r => r = NameAskR l s) := by
  unfold spec_NameAsk.f NameAskR
  refine Evx.bind (spec_names_x hl hs) fun r1 e1 => ?_
  rw [← e1]
  refine Evx.ite (fun h1 => ?_) (fun h1 => ?_)
  · refine Evx.bind (spec_text_x ht) fun r2 e2 => ?_
    rw [← e2]
    refine Evx.step (fun k => by rw [spec_NameAsk.j0]) (Evx.ite (fun h2 => ?_) (fun h2 => ?_))
    · rw [if_neg (fun h => by simp [h.2] at h2)]; exact Evx.now rfl
    · rw [if_pos ⟨h1, by simpa using h2⟩]
      exact spec_ask_l hl s l.length 0 (by omega) (by omega) (by omega)
  · rw [if_neg (fun h => h1 h.1)]
    exact Evx.step (fun k => by rw [spec_NameAsk.j0]) (Evx.pos rfl (Evx.now rfl))

theorem askF_or {l : List S26} {s : ByteArray} (d : Nat) : ∀ i : Int, (∃ j : Int, i ≤ j ∧ j < i + d ∧ (rd_T26 l j).f0.toList = s.toList ∧ AskF l s d i = ((rd_T26 l j).f0, (rd_T26 l j).f1, (rd_T26 l j).f2, (rd_T26 l j).f3, (rd_T26 l j).f4)) ∨ AskF l s d i = (s, 0, 0, (⟨#[]⟩ : ByteArray), 5) := by
  induction d with
  | zero => intro i; exact .inr rfl
  | succ d ih =>
    intro i
    unfold AskF
    by_cases h : (rd_T26 l i).f0.toList = s.toList
    · rw [if_pos h]; exact .inl ⟨i, by omega, by omega, h, rfl⟩
    · rw [if_neg h]
      rcases ih (i + 1) with ⟨j, h1, h2, h3⟩ | h1
      · exact .inl ⟨j, by omega, by omega, h3⟩
      · exact .inr h1
theorem empty_nil : ((⟨#[]⟩ : ByteArray).toList == ([] : List UInt8)) = true := by decide +kernel
theorem ask_ok {l : List S26} (hs : ∀ x ∈ l, Szd x) {s : ByteArray} (ht : (s.size : Int) ≤ 1000000000) (h1 : NamesR l = true) (h2 : TextR s = true) :
    NameR (AskR l s).1 (AskR l s).2.1 (AskR l s).2.2.1 (AskR l s).2.2.2.1 (AskR l s).2.2.2.2 = true ∧ (AskR l s).1.toList = s.toList ∧ ((AskR l s).1.size : Int) ≤ 1000000000 ∧ ((AskR l s).2.2.2.1.size : Int) ≤ 1000000000 := by
  have hn := (namesF_iff l l.length 0).1 h1
  unfold AskR
  rcases askF_or (l := l) (s := s) l.length 0 with ⟨j, j0, j1, hj, he⟩ | he
  · rw [he]
    have hz := szd_rd hs j0 (by omega)
    exact ⟨(hn.1 j (by omega) (by omega)).1, hj, hz.1, hz.2⟩
  · rw [he]
    refine ⟨?_, rfl, ht, by show ((0 : Nat) : Int) ≤ 1000000000; omega⟩
    unfold NameR
    rw [h2, if_pos rfl, empty_nil]; rfl
theorem nameask_no {l : List S26} {s : ByteArray} (h : ¬ (NamesR l = true ∧ TextR s = true)) : NameAskR l s = ((⟨#[]⟩ : ByteArray), 0, 0, (⟨#[]⟩ : ByteArray), 0, false) := by unfold NameAskR; rw [if_neg h]
theorem nameask_yes {l : List S26} {s : ByteArray} (h : NamesR l = true ∧ TextR s = true) : NameAskR l s = ((AskR l s).1, (AskR l s).2.1, (AskR l s).2.2.1, (AskR l s).2.2.2.1, (AskR l s).2.2.2.2, true) := by unfold NameAskR; rw [if_pos h]

theorem bl_loop (b : ByteArray) (d : Nat) : ∀ (i : Nat) (r : List UInt8), b.size - i = d → ByteArray.toList.loop b i r = r.reverse ++ b.data.toList.drop i := by
  induction d with
  | zero =>
    intro i r h
    unfold ByteArray.toList.loop
    have hs : b.data.toList.length = b.size := by rw [Array.length_toList]; rfl
    rw [if_neg (by omega), List.drop_of_length_le (by omega), List.append_nil]
  | succ d ih =>
    intro i r h
    have hs : b.data.toList.length = b.size := by rw [Array.length_toList]; rfl
    unfold ByteArray.toList.loop
    rw [if_pos (by omega), ih (i + 1) _ (by omega), List.reverse_cons, List.append_assoc, List.drop_eq_getElem_cons (by omega : i < b.data.toList.length)]
    have hg : b.get! i = b.data.toList[i]'(by omega) := by
      unfold ByteArray.get!
      rw [Array.getElem_toList]
      exact getElem!_pos b.data i (by rw [Array.length_toList] at hs; omega)
    rw [hg]; rfl
theorem bl_inj {a b : ByteArray} (h : a.toList = b.toList) : a = b := by
  have h2 : a.data.toList = b.data.toList := by
    have e1 := bl_loop a a.size 0 [] (by omega)
    have e2 := bl_loop b b.size 0 [] (by omega)
    have h3 : ByteArray.toList.loop a 0 [] = ByteArray.toList.loop b 0 [] := h
    rw [e1, e2] at h3
    simpa using h3
  obtain ⟨x⟩ := a
  obtain ⟨y⟩ := b
  congr 1
  exact Array.toList_inj.1 h2

theorem szdk_rd {l : List S83} (h : ∀ x ∈ l, Szd x.f0) {i : Int} (i0 : 0 ≤ i) (i1 : i < l.length) : Szd (rd_T83 l i).f0 := by
  unfold rd_T83
  try unfold rdOf
  rw [List.getD_eq_getElem?_getD, List.getElem?_eq_getElem (show i.toNat < l.length by omega)]
  exact h _ (List.getElem_mem _)
theorem rdK_take {l : List S83} {i : Int} {k : Nat} (i0 : 0 ≤ i) (i1 : i < k) : rd_T83 (l.take k) i = rd_T83 l i := by
  unfold rd_T83
  try unfold rdOf
  rw [List.getD_eq_getElem?_getD, List.getD_eq_getElem?_getD, List.getElem?_take, if_pos (by omega)]
/-- The first place of a text among what is kept, from a place on; -1 where it is not. -/
def AtF (l : List S83) (s : ByteArray) : Nat → Int → Int
  | 0, _ => -1
  | d + 1, i => if (rd_T83 l i).f0.f0.toList = s.toList then i else AtF l s d (i + 1)
theorem AtF_take {l : List S83} {s : ByteArray} {k : Nat} (d : Nat) : ∀ i : Int, 0 ≤ i → i + d ≤ k → AtF (l.take k) s d i = AtF l s d i := by
  induction d with
  | zero => intro i _ _; rfl
  | succ d ih =>
    intro i i0 h
    unfold AtF
    rw [rdK_take i0 (by omega), ih (i + 1) (by omega) (by omega)]
/-- What is kept, from a place on. -/
def KeptF (l : List S83) : Nat → Int → Bool
  | 0, _ => decide ((l.length : Int) ≤ 5)
  | d + 1, i => if NmR (rd_T83 l i).f0 = true then (if 0 ≤ (rd_T83 l i).f1 ∧ (rd_T83 l i).f1 ≤ 1000000 then (if AtF l (rd_T83 l i).f0.f0 i.toNat 0 ≥ 0 then false else KeptF l d (i + 1)) else false) else false
/-- Whether what is kept is ok. -/
def KeptR (l : List S83) : Bool := KeptF l l.length 0

theorem spec_kept_l1 {l : List S83} {i : Int} {P : Bool → Prop} (i0 : 0 ≤ i) (i1 : i < l.length) (hl : (l.length : Int) ≤ 100000000) (d : Nat) : ∀ j : Int, 0 ≤ j → i - j = d → (AtF l (rd_T83 l i).f0.f0 d j ≥ 0 → P false) → (¬ AtF l (rd_T83 l i).f0.f0 d j ≥ 0 → Evx (fun k => spec_KeptOk.l0 k l (i + 1)) P) → Evx (fun k => spec_KeptOk.l1 k l i j) P := by
  induction d with
  | zero =>
    intro j j0 hd h1 h2
    have e : wrap64 (i + 1) = i + 1 := by unfold wrap64; omega
    refine Evx.step (fun k => by rw [spec_KeptOk.l1]) (Evx.neg (by omega) ?_)
    rw [e]
    exact h2 (by unfold AtF; omega)
  | succ d ih =>
    intro j j0 hd h1 h2
    have e : wrap64 (j + 1) = j + 1 := by unfold wrap64; omega
    unfold AtF at h1 h2
    refine Evx.step (fun k => by rw [spec_KeptOk.l1]) (Evx.pos (by omega) (Evx.pos j0 (Evx.pos (by omega) (Evx.pos i0 (Evx.pos i1 ?_)))))
    rw [e]
    refine Evx.ite (fun h => ?_) (fun h => ?_)
    · rw [if_pos h] at h1; exact Evx.now (h1 (by omega))
    · rw [if_neg h] at h1 h2; exact ih (j + 1) (by omega) (by omega) h1 h2
theorem spec_kept_l {l : List S83} (hl : (l.length : Int) ≤ 100000000) (hs : ∀ x ∈ l, Szd x.f0) (d : Nat) : ∀ i : Int, 0 ≤ i → i ≤ l.length → l.length - i = d → Evx (fun k => spec_KeptOk.l0 k l i) (fun r => r = KeptF l d i) := by
  induction d with
  | zero =>
    intro i i0 i1 hd
    refine Evx.step (fun k => by rw [spec_KeptOk.l0]) ?_
    exact Evx.neg (by omega) (Evx.now rfl)
  | succ d ih =>
    intro i i0 i1 hd
    have hz := szdk_rd hs i0 (by omega : i < l.length)
    refine Evx.step (fun k => by rw [spec_KeptOk.l0]) (Evx.pos (by omega) (Evx.pos i0 ?_))
    refine Evx.bind (spec_name_x _ _ _ hz.1 hz.2) fun r1 hr => ?_
    unfold KeptF NmR
    rw [← hr]
    refine Evx.ite (fun h => ?_) (fun h => ?_)
    · rw [if_pos h]
      simp only [spec_in_eq, Option.bind_some]
      refine Evx.step (fun k => by rw [spec_KeptOk.j1]) ?_
      by_cases c : 0 ≤ (rd_T83 l i).f1 ∧ (rd_T83 l i).f1 ≤ 1000000
      · rw [if_pos c]
        refine Evx.neg (by simp [c]) ?_
        refine spec_kept_l1 i0 (by omega) hl i.toNat 0 (by omega) (by omega) (fun q => ?_) (fun q => ?_)
        · rw [if_pos q]
        · rw [if_neg q]; exact ih (i + 1) (by omega) (by omega) (by omega)
      · rw [if_neg c]
        exact Evx.pos (by simp; omega) (Evx.now rfl)
    · rw [if_neg h]
      exact Evx.step (fun k => by rw [spec_KeptOk.j1]) (Evx.pos rfl (Evx.now rfl))
theorem spec_kept_x {l : List S83} (hl : (l.length : Int) ≤ 100000000) (hs : ∀ x ∈ l, Szd x.f0) : Evx (fun k => spec_KeptOk.f k l) (fun r => r = KeptR l) := by
  unfold spec_KeptOk.f KeptR
  exact spec_kept_l hl hs l.length 0 (by omega) (by omega) (by omega)

theorem impl_at_l {l : List S83} (hl : (l.length : Int) ≤ 100000000) (s : ByteArray) (d : Nat) : ∀ i : Int, 0 ≤ i → i ≤ l.length → l.length - i = d → Evx (fun k => impl_keptAt.l0 k l s i) (fun r => r = AtF l s d i) := by
  induction d with
  | zero =>
    intro i i0 i1 hd
    refine Evx.step (fun k => by rw [impl_keptAt.l0]) ?_
    exact Evx.neg (by omega) (Evx.now rfl)
  | succ d ih =>
    intro i i0 i1 hd
    have e : wrap64 (i + 1) = i + 1 := by unfold wrap64; omega
    refine Evx.step (fun k => by rw [impl_keptAt.l0]) (Evx.pos (by omega) (Evx.pos i0 ?_))
    rw [e]
    unfold AtF
    refine Evx.ite (fun h => ?_) (fun h => ?_)
    · rw [if_pos h]; exact Evx.now rfl
    · rw [if_neg h]; exact ih _ (by omega) (by omega) (by omega)
theorem impl_at_x {l : List S83} (hl : (l.length : Int) ≤ 100000000) (s : ByteArray) : Evx (fun k => impl_keptAt.f k l s) (fun r => r = AtF l s l.length 0) := by
  unfold impl_keptAt.f
  exact impl_at_l hl s l.length 0 (by omega) (by omega) (by omega)
theorem impl_kept_l {l : List S83} (hl : (l.length : Int) ≤ 100000000) (hs : ∀ x ∈ l, Szd x.f0) (d : Nat) : ∀ i : Int, 0 ≤ i → i ≤ l.length → l.length - i = d → Evx (fun k => impl_KeptOk.l0 k l l (l.length : Int) i) (fun r => r = KeptF l d i) := by
  induction d with
  | zero =>
    intro i i0 i1 hd
    refine Evx.step (fun k => by rw [impl_KeptOk.l0]) ?_
    exact Evx.neg (by omega) (Evx.now rfl)
  | succ d ih =>
    intro i i0 i1 hd
    have e : wrap64 (i + 1) = i + 1 := by unfold wrap64; omega
    have hz := szdk_rd hs i0 (by omega : i < l.length)
    have ht : ((l.take i.toNat).length : Int) = i := by rw [List.length_take]; omega
    refine Evx.step (fun k => by rw [impl_KeptOk.l0]) (Evx.pos (by omega) (Evx.pos i0 (Evx.pos (by omega) ?_)))
    refine Evx.bind (impl_name_x _ _ _ hz.1 hz.2) fun r1 hr => ?_
    unfold KeptF NmR
    rw [← hr]
    refine Evx.ite (fun h => ?_) (fun h => ?_)
    · rw [if_pos h]
      simp only [impl_in_eq, Option.bind_some]
      refine Evx.ite (fun c => ?_) (fun c => ?_)
      · have c' : 0 ≤ (rd_T83 l i).f1 ∧ (rd_T83 l i).f1 ≤ 1000000 := by simpa using c
        rw [if_pos c']
        refine Evx.pos (by omega) (Evx.bind (impl_at_x (by omega) _) fun r2 e2 => ?_)
        have e3 : (l.take i.toNat).length = i.toNat := by omega
        rw [e3, AtF_take i.toNat 0 (by omega) (by omega)] at e2
        rw [← e2, e]
        refine Evx.ite (fun q => ?_) (fun q => ?_)
        · rw [if_pos q]; exact Evx.now rfl
        · rw [if_neg q]; exact ih (i + 1) (by omega) (by omega) (by omega)
      · have c' : ¬ (0 ≤ (rd_T83 l i).f1 ∧ (rd_T83 l i).f1 ≤ 1000000) := by simpa using c
        rw [if_neg c']; exact Evx.now rfl
    · rw [if_neg h]; exact Evx.now rfl
theorem impl_kept_x {l : List S83} (hl : (l.length : Int) ≤ 100000000) (hs : ∀ x ∈ l, Szd x.f0) : Evx (fun k => impl_KeptOk.f k l) (fun r => r = KeptR l) := by
  unfold impl_KeptOk.f KeptR
  exact impl_kept_l hl hs l.length 0 (by omega) (by omega) (by omega)

theorem rdK_at {l : List S83} {j : Nat} (h : j < l.length) : rd_T83 l (j : Int) = l[j] := by
  unfold rd_T83
  rw [Int.toNat_natCast, List.getD_eq_getElem?_getD, List.getElem?_eq_getElem h]; rfl
theorem AtF_spec {l : List S83} {s : ByteArray} (d : Nat) : ∀ i : Nat, (∃ a : Nat, i ≤ a ∧ a < i + d ∧ AtF l s d i = a ∧ (rd_T83 l a).f0.f0 = s ∧ ∀ j : Nat, i ≤ j → j < a → (rd_T83 l j).f0.f0 ≠ s) ∨ (AtF l s d i = -1 ∧ ∀ j : Nat, i ≤ j → j < i + d → (rd_T83 l j).f0.f0 ≠ s) := by
  induction d with
  | zero => intro i; exact .inr ⟨rfl, fun j h1 h2 => by omega⟩
  | succ d ih =>
    intro i
    unfold AtF
    by_cases h : (rd_T83 l i).f0.f0.toList = s.toList
    · rw [if_pos h]; exact .inl ⟨i, by omega, by omega, rfl, bl_inj h, fun j h1 h2 => by omega⟩
    · rw [if_neg h, show (i : Int) + 1 = ((i + 1 : Nat) : Int) by omega]
      have hi : (rd_T83 l i).f0.f0 ≠ s := fun e => h (by rw [e])
      rcases ih (i + 1) with ⟨a, h1, h2, h3, h4, h5⟩ | ⟨h1, h2⟩
      · refine .inl ⟨a, by omega, by omega, h3, h4, fun j h6 h7 => ?_⟩
        by_cases e : j = i
        · rw [e]; exact hi
        · exact h5 j (by omega) h7
      · refine .inr ⟨h1, fun j h6 h7 => ?_⟩
        by_cases e : j = i
        · rw [e]; exact hi
        · exact h2 j (by omega) (by omega)
/-- What holds of one that is kept. -/
def Kp (x : S83) : Prop := NmR x.f0 = true ∧ 0 ≤ x.f1 ∧ x.f1 ≤ 1000000
/-- Two texts that differ. -/
def Df (x y : S83) : Prop := x.f0.f0 ≠ y.f0.f0
theorem keptF_iff (l : List S83) (d : Nat) : ∀ i : Nat, KeptF l d i = true ↔ (∀ j : Nat, i ≤ j → j < i + d → Kp (rd_T83 l j) ∧ ∀ q : Nat, q < j → (rd_T83 l q).f0.f0 ≠ (rd_T83 l j).f0.f0) ∧ (l.length : Int) ≤ 5 := by
  induction d with
  | zero =>
    intro i
    unfold KeptF
    constructor
    · intro h; exact ⟨fun j h1 h2 => by omega, of_decide_eq_true h⟩
    · intro h; exact decide_eq_true h.2
  | succ d ih =>
    intro i
    unfold KeptF
    have hc : (i : Int) + 1 = ((i + 1 : Nat) : Int) := by omega
    have hat := AtF_spec (l := l) (s := (rd_T83 l i).f0.f0) i 0
    rw [hc, Int.toNat_natCast]
    constructor
    · intro h
      have hn : (Kp (rd_T83 l i) ∧ ∀ q : Nat, q < i → (rd_T83 l q).f0.f0 ≠ (rd_T83 l i).f0.f0) ∧ KeptF l d ((i + 1 : Nat) : Int) = true := by
        by_cases c1 : NmR (rd_T83 l i).f0 = true
        · rw [if_pos c1] at h
          by_cases c2 : 0 ≤ (rd_T83 l i).f1 ∧ (rd_T83 l i).f1 ≤ 1000000
          · rw [if_pos c2] at h
            by_cases c3 : AtF l (rd_T83 l i).f0.f0 i 0 ≥ 0
            · rw [if_pos c3] at h; exact absurd h (by simp)
            · rw [if_neg c3] at h
              refine ⟨⟨⟨c1, c2⟩, fun q hq => ?_⟩, h⟩
              rcases hat with ⟨a, h1, h2, h3, h4, h5⟩ | ⟨h1, h2⟩
              · exact absurd (show AtF l (rd_T83 l i).f0.f0 i 0 ≥ 0 by have h3 : AtF l (rd_T83 l i).f0.f0 i 0 = a := h3; omega) c3
              · exact h2 q (by omega) (by omega)
          · rw [if_neg c2] at h; exact absurd h (by simp)
        · rw [if_neg c1] at h; exact absurd h (by simp)
      have h2 := (ih (i + 1)).1 hn.2
      refine ⟨fun j h3 h4 => ?_, h2.2⟩
      by_cases e : j = i
      · rw [e]; exact hn.1
      · exact h2.1 j (by omega) (by omega)
    · intro h
      obtain ⟨h1, h1'⟩ := h.1 i (by omega) (by omega)
      have h2 := (ih (i + 1)).2 ⟨fun j h3 h4 => h.1 j (by omega) (by omega), h.2⟩
      rw [if_pos h1.1, if_pos h1.2, if_neg, h2]
      rcases hat with ⟨a, h3, h4, h5, h6, h7⟩ | ⟨h3, h4⟩
      · exact absurd h6 (h1' a (by omega))
      · have h3 : AtF l (rd_T83 l i).f0.f0 i 0 = -1 := h3
        omega
theorem kept_iff (l : List S83) : KeptR l = true ↔ (∀ x ∈ l, Kp x) ∧ l.Pairwise Df ∧ l.length ≤ 5 := by
  unfold KeptR
  have h0 := keptF_iff l l.length 0
  rw [show (((0 : Nat) : Int)) = (0 : Int) from rfl] at h0
  rw [h0]
  constructor
  · rintro ⟨h1, h2⟩
    refine ⟨fun x hx => ?_, List.pairwise_iff_getElem.2 fun i j hi hj hij => ?_, by omega⟩
    · obtain ⟨j, hj, rfl⟩ := List.mem_iff_getElem.1 hx
      have := (h1 j (by omega) (by omega)).1
      rw [rdK_at hj] at this; exact this
    · have := (h1 j (by omega) (by omega)).2 i hij
      rw [rdK_at hj, rdK_at hi] at this; exact this
  · rintro ⟨h1, h2, h3⟩
    refine ⟨fun j _ hj => ⟨?_, fun q hq => ?_⟩, by omega⟩
    · rw [rdK_at (by omega)]; exact h1 _ (List.getElem_mem _)
    · rw [rdK_at (by omega), rdK_at (by omega)]
      exact List.pairwise_iff_getElem.1 h2 q j (by omega) (by omega) hq
/-- What a name is kept as. -/
def KeepN (n : ByteArray × Int × Int × ByteArray × Int) (now : Int) : S83 := ⟨⟨n.1, n.2.1, n.2.2.1, n.2.2.2.1, n.2.2.2.2⟩, wrap64 (now + n.2.2.2.2)⟩
/-- What is kept without the one at a place. -/
def Without (l : List S83) (a : Int) : List S83 := if a ≥ 0 then l.take a.toNat ++ l.drop (a.toNat + 1) else l
/-- The last five. -/
def Last5 (l : List S83) : List S83 := l.drop (l.length - 5)
/-- What is kept, and told, behind a text that was asked for. -/
def KeepR (l : List S83) (ns : List S26) (s : ByteArray) (now : Int) : List S83 × ByteArray × Int × Int × ByteArray × Int × Bool :=
  if AtF l s l.length 0 ≥ 0 ∧ (rd_T83 l (AtF l s l.length 0)).f1 > now then
    (l, (rd_T83 l (AtF l s l.length 0)).f0.f0, (rd_T83 l (AtF l s l.length 0)).f0.f1, (rd_T83 l (AtF l s l.length 0)).f0.f2, (rd_T83 l (AtF l s l.length 0)).f0.f3, (rd_T83 l (AtF l s l.length 0)).f0.f4, true)
  else (Last5 (Without l (AtF l s l.length 0) ++ [KeepN (AskR ns s) now]), (AskR ns s).1, (AskR ns s).2.1, (AskR ns s).2.2.1, (AskR ns s).2.2.2.1, (AskR ns s).2.2.2.2, false)
/-- Whether something can be asked. -/
def MayAsk (l : List S83) (ns : List S26) (s : ByteArray) (now : Int) : Prop := KeptR l = true ∧ (NamesR ns = true ∧ TextR s = true) ∧ (0 ≤ now ∧ now ≤ 900000)
instance (l : List S83) (ns : List S26) (s : ByteArray) (now : Int) : Decidable (MayAsk l ns s now) := by unfold MayAsk; infer_instance
def KeptAskR (l : List S83) (ns : List S26) (s : ByteArray) (now : Int) : List S83 × ByteArray × Int × Int × ByteArray × Int × Bool :=
  if MayAsk l ns s now then KeepR l ns s now else ([], (⟨#[]⟩ : ByteArray), 0, 0, (⟨#[]⟩ : ByteArray), 0, false)
theorem without_len {l : List S83} (a : Int) : (Without l a).length ≤ l.length := by
  unfold Without
  split
  · rw [List.length_append, List.length_take, List.length_drop]; omega
  · exact Nat.le_refl _

theorem Evx.sb {α β : Type} {a : α} {f : Nat → α → Option β} {P : β → Prop} (h : Evx (fun k => f k a) P) : Evx (fun k => (some a).bind (f k)) P := h

theorem Evx.sure {α : Type} {g : Nat → Option α} {P : α → Prop} (h : Evx g (fun _ => True)) (t : ∀ k r, g k = some r → P r) : Evx g P := by
  obtain ⟨r, hr, _⟩ := h
  obtain ⟨k, hk⟩ := hr.rounds
  exact ⟨r, hr, t k r hk⟩
theorem impl_clone75 {l : List S83} (hl : (l.length : Int) ≤ 100000000) : impl_Kept_75.f l = some l := by
  unfold impl_Kept_75.f
  by_cases h : (l.length : Int) = 0
  · rw [if_pos h, List.eq_nil_of_length_eq_zero (by omega : l.length = 0)]
  · rw [if_neg h]
    simp only [Option.bind_some, List.nil_append, List.length_nil]
    rw [if_pos (by omega)]
theorem impl_clone84 {l : List S83} (hl : (l.length : Int) ≤ 100000000) : impl_Kept_84.f l = some l := by
  unfold impl_Kept_84.f
  simp only [Option.bind_some, List.nil_append, List.length_nil]
  rw [if_pos (by omega)]
theorem del_ex (d : Nat) : ∀ (x : List S83) (j : Nat), (x.length : Int) ≤ 100000000 → j < x.length → x.length - j = d + 1 → Evx (fun k => impl_Kept_85.l0 k x j) (fun _ => True) := by
  induction d with
  | zero =>
    intro x j hm hj hd
    have e : wrap64 ((j : Int) + 1) = j + 1 := by unfold wrap64; omega
    have e2 : wrap64 ((x.length : Int) - 1) = x.length - 1 := by unfold wrap64; omega
    refine Evx.step (fun k => by rw [impl_Kept_85.l0]) ?_
    rw [e, e2]
    exact Evx.neg (by omega) (Evx.pos (by omega) (Evx.pos (by omega) (Evx.now trivial)))
  | succ d ih =>
    intro x j hm hj hd
    have e : wrap64 ((j : Int) + 1) = ((j + 1 : Nat) : Int) := by unfold wrap64; omega
    refine Evx.step (fun k => by rw [impl_Kept_85.l0]) ?_
    rw [e]
    exact Evx.pos (by omega) (Evx.pos (by omega) (Evx.pos (by omega) (Evx.pos (by omega) (ih _ (j + 1) (by rw [List.length_set]; exact hm) (by rw [List.length_set]; omega) (by rw [List.length_set]; omega)))))
theorem del_x {x : List S83} {j : Nat} (hm : (x.length : Int) ≤ 100000000) (hj : j < x.length) : Evx (fun k => impl_Kept_85.f k x j (wrap64 ((j : Int) + 1))) (fun r => r = Without x j) := by
  unfold impl_Kept_85.f
  refine Evx.pos rfl (Evx.step (fun k => by rw [impl_Kept_85.j0]) (Evx.pos (by omega) (Evx.pos (by omega) ?_)))
  refine Evx.sure (del_ex (x.length - j - 1) x j hm hj (by omega)) fun k r h => ?_
  rw [del_tells k x j r hj (by omega) h]
  unfold Without
  rw [if_pos (by omega), Int.toNat_natCast]
theorem last5_x {y : List S83} (hy : (y.length : Int) ≤ 1000000) (n : ByteArray × Int × Int × ByteArray × Int) : Evx (fun _ => if 0 ≤ (mx 0 (wrap64 ((y.length : Int) - 5))) then (if (mx 0 (wrap64 ((y.length : Int) - 5))) ≤ (y.length : Int) then ((impl_Kept_75.f (y.drop ((mx 0 (wrap64 ((y.length : Int) - 5))) : Int).toNat)).bind fun t298 => (some (t298, n.1, n.2.1, n.2.2.1, n.2.2.2.1, n.2.2.2.2, false))) else (none)) else (none))
    (fun r => r = (Last5 y, n.1, n.2.1, n.2.2.1, n.2.2.2.1, n.2.2.2.2, false)) := by
  have e : mx 0 (wrap64 ((y.length : Int) - 5)) = if 5 ≤ y.length then (y.length : Int) - 5 else 0 := by unfold mx wrap64; split <;> omega
  have e2 : (mx 0 (wrap64 ((y.length : Int) - 5))).toNat = y.length - 5 := by rw [e]; split <;> omega
  have e3 : 0 ≤ mx 0 (wrap64 ((y.length : Int) - 5)) ∧ mx 0 (wrap64 ((y.length : Int) - 5)) ≤ y.length := by rw [e]; split <;> omega
  refine Evx.pos e3.1 (Evx.pos e3.2 ?_)
  rw [e2, impl_clone75 (by rw [List.length_drop]; omega)]
  exact Evx.now rfl
theorem impl_keep_x {l : List S83} {ns : List S26} (hl : (l.length : Int) ≤ 1000) (hn : (ns.length : Int) ≤ 100000000) (s : ByteArray) (now : Int) : Evx (fun k => impl_keep.f k l ns s now) (fun r => r = KeepR l ns s now) := by
  unfold impl_keep.f KeepR
  refine Evx.bind (impl_at_x (by omega) s) fun t e0 => ?_
  rw [← e0]
  have hat := AtF_spec (l := l) (s := s) l.length 0
  rw [show (((0 : Nat) : Int)) = (0 : Int) from rfl, ← e0] at hat
  have hr := fun (n : ByteArray × Int × Int × ByteArray × Int) (x : List S83) (hx : (x.length : Int) ≤ 1000) => last5_x (y := x ++ [KeepN n now]) (by rw [List.length_append, List.length_singleton]; omega) n
  rcases hat with ⟨a, h1, h2, rfl, h4, h5⟩ | ⟨rfl, h2⟩
  · refine Evx.pos (by omega) (Evx.pos (by omega) (Evx.pos (by omega) (Evx.step (fun k => by rw [impl_keep.j0]) ?_)))
    by_cases c : (rd_T83 l a).f1 > now
    · rw [if_pos ⟨by omega, c⟩]
      refine Evx.pos (decide_eq_true c) ?_
      have g1 : (0 : Int) ≤ (a : Int) := by omega
      have g2 : (a : Int) < (l.length : Int) := by omega
      rw [impl_clone75 (by omega)]
      simp only [Option.bind_some, if_pos g1, if_pos g2]
      exact Evx.now rfl
    · rw [if_neg (fun q => c q.2)]
      refine Evx.neg (by simpa using c) ?_
      refine Evx.bind (impl_ask_x hn s) fun n en => ?_
      rw [impl_clone84 (by omega)]
      refine Evx.sb (Evx.pos (by omega) (Evx.bind (del_x (by omega) (by omega)) fun x ex => ?_))
      have hx : (x.length : Int) ≤ 1000 := by
        rw [ex]; unfold Without
        rw [if_pos (by omega), List.length_append, List.length_take, List.length_drop, Int.toNat_natCast]; omega
      refine Evx.pos (by omega) (Evx.sb ?_)
      rw [← en, ← ex]
      have h9 := hr n x hx
      unfold KeepN at h9 ⊢
      exact h9
  · rw [if_neg (fun q => by have := q.1; omega)]
    refine Evx.neg (by omega) (Evx.step (fun k => by rw [impl_keep.j0]) (Evx.neg (by simp) ?_))
    refine Evx.bind (impl_ask_x hn s) fun n en => ?_
    rw [impl_clone84 (by omega)]
    refine Evx.sb (Evx.neg (by omega) (Evx.pos (by omega) (Evx.sb ?_)))
    have hw : Without l (-1) = l := by unfold Without; rw [if_neg (by omega)]
    rw [← en, hw]
    have h9 := hr n l hl
    unfold KeepN at h9 ⊢
    exact h9
theorem impl_keptOk_x {l : List S83} {ns : List S26} (hl : (l.length : Int) ≤ 100000000) (hs : ∀ x ∈ l, Szd x.f0) (hn : (ns.length : Int) ≤ 100000000) (hsn : ∀ x ∈ ns, Szd x) {s : ByteArray} (ht : (s.size : Int) ≤ 1000000000) (now : Int) : Evx (fun k => impl_keptOk.f k l ns s now) (fun r => r = decide (MayAsk l ns s now)) := by
  unfold impl_keptOk.f
  refine Evx.bind (impl_kept_x hl hs) fun r1 e1 => ?_
  subst e1
  refine Evx.ite (fun h1 => ?_) (fun h1 => Evx.now (decide_eq_false (fun q => h1 q.1)).symm)
  refine Evx.bind (impl_names_x hn hsn) fun r2 e2 => ?_
  subst e2
  refine Evx.ite (fun h2 => ?_) (fun h2 => Evx.now (decide_eq_false (fun q => h2 q.2.1.1)).symm)
  refine Evx.bind (impl_text_x ht) fun r3 e3 => ?_
  subst e3
  refine Evx.ite (fun h3 => ?_) (fun h3 => Evx.now (decide_eq_false (fun q => h3 q.2.1.2)).symm)
  rw [impl_in_eq]
  simp only [Option.bind_some]
  by_cases c : 0 ≤ now ∧ now ≤ 900000
  · rw [decide_eq_true c]; exact Evx.now (decide_eq_true (show MayAsk l ns s now from ⟨h1, ⟨h2, h3⟩, c⟩)).symm
  · rw [decide_eq_false c]; exact Evx.now (decide_eq_false (fun q => c q.2.2)).symm

/-- The reference's walk over what is kept. -/
def SK (l : List S83) (s : ByteArray) (now : Int) (n : ByteArray × Int × Int × ByteArray × Int) : Nat → Nat → List S83 → List S83 × ByteArray × Int × Int × ByteArray × Int × Bool
  | 0, _, x => (Last5 (x ++ [KeepN n now]), n.1, n.2.1, n.2.2.1, n.2.2.2.1, n.2.2.2.2, false)
  | d + 1, i, x => if (rd_T83 l i).f0.f0.toList = s.toList then (if (rd_T83 l i).f1 > now then (l, (rd_T83 l i).f0.f0, (rd_T83 l i).f0.f1, (rd_T83 l i).f0.f2, (rd_T83 l i).f0.f3, (rd_T83 l i).f0.f4, true) else SK l s now n d (i + 1) x) else SK l s now n d (i + 1) (x ++ [rd_T83 l i])
theorem SK_succ {l : List S83} {s : ByteArray} {now : Int} {n : ByteArray × Int × Int × ByteArray × Int} (d i : Nat) (x : List S83) : SK l s now n (d + 1) i x = (if (rd_T83 l i).f0.f0.toList = s.toList then (if (rd_T83 l i).f1 > now then (l, (rd_T83 l i).f0.f0, (rd_T83 l i).f0.f1, (rd_T83 l i).f0.f2, (rd_T83 l i).f0.f3, (rd_T83 l i).f0.f4, true) else SK l s now n d (i + 1) x) else SK l s now n d (i + 1) (x ++ [rd_T83 l i])) := rfl
theorem SK_zero {l : List S83} {s : ByteArray} {now : Int} {n : ByteArray × Int × Int × ByteArray × Int} (i : Nat) (x : List S83) : SK l s now n 0 i x = (Last5 (x ++ [KeepN n now]), n.1, n.2.1, n.2.2.1, n.2.2.2.1, n.2.2.2.2, false) := rfl
theorem last5_le {y : List S83} (h : y.length ≤ 5) : Last5 y = y := by unfold Last5; rw [Nat.sub_eq_zero_of_le h]; rfl
theorem spec_keep_l {l : List S83} (hl : l.length ≤ 5) (s : ByteArray) (now : Int) (n : ByteArray × Int × Int × ByteArray × Int) (d : Nat) : ∀ (i : Nat) (x : List S83), i + d = l.length → x.length ≤ i →
    Evx (fun k => spec_KeptAsk.l0 k l s now x i n.1 n.2.1 n.2.2.1 n.2.2.2.1 n.2.2.2.2) (fun r => r = SK l s now n d i x) := by
  induction d with
  | zero =>
    intro i x hd hx
    have hyl : (x ++ [KeepN n now]).length ≤ 6 := by rw [List.length_append, List.length_singleton]; omega
    refine Evx.step (fun k => by rw [spec_KeptAsk.l0]) ?_
    refine Evx.neg (by omega) (Evx.pos (by omega) ?_)
    simp only [Option.bind_some]
    unfold SK
    refine Evx.ite (fun c => ?_) (fun c => ?_)
    · have c : ((x ++ [KeepN n now]).length : Int) > 5 := c
      refine Evx.pos (by show (1 : Int) ≤ ((x ++ [KeepN n now]).length : Int); omega) (Evx.now ?_)
      unfold Last5
      rw [show (x ++ [KeepN n now]).length - 5 = 1 by omega]
      rfl
    · have c : ¬ ((x ++ [KeepN n now]).length : Int) > 5 := c
      refine Evx.now ?_
      rw [last5_le (by omega)]
      rfl
  | succ d ih =>
    intro i x hd hx
    have e : wrap64 ((i : Int) + 1) = ((i + 1 : Nat) : Int) := by unfold wrap64; omega
    refine Evx.step (fun k => by rw [spec_KeptAsk.l0]) (Evx.pos (by omega) (Evx.pos (by omega) ?_))
    unfold SK
    refine Evx.ite (fun c => ?_) (fun c => ?_)
    · rw [if_pos c]
      refine Evx.step (fun k => by rw [spec_KeptAsk.j2]) ?_
      by_cases q : (rd_T83 l i).f1 > now
      · rw [if_pos q]
        refine Evx.pos (decide_eq_true q) ?_
        simp only [Option.bind_some, List.nil_append, List.length_nil]
        exact Evx.pos (by omega) (Evx.pos (by omega) (Evx.pos (by omega) (Evx.now rfl)))
      · rw [if_neg q]
        refine Evx.neg (by simpa using q) (Evx.pos (by omega) (Evx.pos (by omega) (Evx.pos c ?_)))
        rw [e]
        exact ih (i + 1) x (by omega) (by omega)
    · rw [if_neg c]
      refine Evx.step (fun k => by rw [spec_KeptAsk.j2]) (Evx.neg (by simp) (Evx.pos (by omega) (Evx.pos (by omega) (Evx.neg c (Evx.pos (by omega) ?_)))))
      rw [e]
      exact ih (i + 1) (x ++ [rd_T83 l i]) (by omega) (by rw [List.length_append, List.length_singleton]; omega)
theorem SK_skip {l : List S83} {s : ByteArray} {now : Int} {n : ByteArray × Int × Int × ByteArray × Int} (d : Nat) (m : Nat) : ∀ (i : Nat) (x : List S83), i + m ≤ l.length → (∀ j : Nat, i ≤ j → j < i + m → (rd_T83 l j).f0.f0 ≠ s) → SK l s now n (m + d) i x = SK l s now n d (i + m) (x ++ (l.drop i).take m) := by
  induction m with
  | zero => intro i x _ _; simp
  | succ m ih =>
    intro i x hm hn
    rw [show m + 1 + d = (m + d) + 1 by omega]
    have h1 : ¬ (rd_T83 l i).f0.f0.toList = s.toList := fun q => hn i (by omega) (by omega) (bl_inj q)
    rw [SK_succ, if_neg h1, ih (i + 1) _ (by omega) (fun j h2 h3 => hn j (by omega) (by omega)), List.drop_eq_getElem_cons (by omega : i < l.length), List.take_succ_cons, List.append_assoc, rdK_at (by omega), show i + 1 + m = i + (m + 1) by omega]
    simp only [List.singleton_append]
theorem SK_keep {l : List S83} (hk : KeptR l = true) (ns : List S26) (s : ByteArray) (now : Int) : SK l s now (AskR ns s) l.length 0 [] = KeepR l ns s now := by
  obtain ⟨_, hp, _⟩ := (kept_iff l).1 hk
  have hat := AtF_spec (l := l) (s := s) l.length 0
  rw [show (((0 : Nat) : Int)) = (0 : Int) from rfl] at hat
  unfold KeepR
  rcases hat with ⟨a, h1, h2, h3, h4, h5⟩ | ⟨h1, h2⟩
  · rw [h3]
    have h6 := SK_skip (l := l) (s := s) (now := now) (n := AskR ns s) (l.length - a) a 0 [] (by omega) (fun j q1 q2 => h5 j q1 (by omega))
    rw [show a + (l.length - a) = l.length by omega] at h6
    rw [h6, show l.length - a = (l.length - a - 1) + 1 by omega, SK_succ]
    rw [Nat.zero_add, if_pos (by rw [h4])]
    by_cases c : (rd_T83 l a).f1 > now
    · rw [if_pos c, if_pos ⟨by omega, c⟩]
    · rw [if_neg c, if_neg (fun q => c q.2)]
      have h7 := SK_skip (l := l) (s := s) (now := now) (n := AskR ns s) 0 (l.length - a - 1) (a + 1) (l.take a) (by omega) (fun j q1 q2 q3 => by
        have q4 := List.pairwise_iff_getElem.1 hp a j (by omega) (by omega) (by omega)
        rw [rdK_at (by omega)] at q3 h4
        exact q4 (by rw [h4, q3]))
      rw [Nat.add_zero] at h7
      rw [List.nil_append, List.drop_zero, h7, SK_zero]
      unfold Without
      rw [if_pos (by omega), Int.toNat_natCast, List.take_of_length_le (by rw [List.length_drop]; omega : (l.drop (a + 1)).length ≤ l.length - a - 1)]
  · rw [h1, if_neg (fun q => by have := q.1; omega)]
    have h6 := SK_skip (l := l) (s := s) (now := now) (n := AskR ns s) 0 l.length 0 [] (by omega) (fun j q1 q2 => h2 j q1 (by omega))
    rw [Nat.add_zero] at h6
    rw [h6, SK_zero]
    unfold Without
    rw [if_neg (by omega), List.nil_append, List.drop_zero, List.take_length]
theorem spec_keptask_x {l : List S83} {ns : List S26} (hl : (l.length : Int) ≤ 100000000) (hs : ∀ x ∈ l, Szd x.f0) (hn : (ns.length : Int) ≤ 100000000) (hsn : ∀ x ∈ ns, Szd x) {s : ByteArray} (ht : (s.size : Int) ≤ 1000000000) (now : Int) : Evx (fun k => spec_KeptAsk.f k l ns s now) (fun r => r = KeptAskR l ns s now) := by
  unfold spec_KeptAsk.f KeptAskR
  refine Evx.bind (spec_nameask_x hn hsn ht) fun r1 e1 => ?_
  refine Evx.bind (spec_kept_x hl hs) fun r2 e2 => ?_
  by_cases hk : KeptR l = true
  · refine Evx.pos (by rw [e2]; exact hk) ?_
    by_cases hq : NamesR ns = true ∧ TextR s = true
    · unfold NameAskR at e1
      rw [if_pos hq] at e1
      subst e1
      refine Evx.pos rfl ?_
      simp only [spec_in_eq, Option.bind_some]
      refine Evx.step (fun k => by rw [spec_KeptAsk.j0]) ?_
      by_cases hw : 0 ≤ now ∧ now ≤ 900000
      · rw [if_pos (show MayAsk l ns s now from ⟨hk, hq, hw⟩)]
        refine Evx.neg (by simp [hw]) ?_
        rw [← SK_keep hk ns s now]
        exact spec_keep_l ((kept_iff l).1 hk).2.2 s now (AskR ns s) l.length 0 [] (by omega) (by simp)
      · rw [if_neg (fun h : MayAsk l ns s now => hw h.2.2)]
        exact Evx.pos (by simp; omega) (Evx.now rfl)
    · unfold NameAskR at e1
      rw [if_neg hq] at e1
      subst e1
      rw [if_neg (fun h : MayAsk l ns s now => hq h.2.1)]
      exact Evx.neg (by simp) (Evx.step (fun k => by rw [spec_KeptAsk.j0]) (Evx.pos rfl (Evx.now rfl)))
  · rw [if_neg (fun h : MayAsk l ns s now => hk h.1)]
    exact Evx.neg (by rw [e2]; exact hk) (Evx.step (fun k => by rw [spec_KeptAsk.j0]) (Evx.pos rfl (Evx.now rfl)))

theorem name_time {t : ByteArray} {k a : Int} {al : ByteArray} {tm : Int} (h : NameR t k a al tm = true) : 1 ≤ tm ∧ tm ≤ 50 := by
  unfold NameR at h
  simp only [Bool.and_eq_true] at h
  exact of_decide_eq_true h.1.2
theorem without_sub {l : List S83} (a : Int) : (Without l a).Sublist l := by
  unfold Without
  by_cases h : a ≥ 0
  · rw [if_pos h, ← List.eraseIdx_eq_take_drop_succ]; exact List.eraseIdx_sublist _ _
  · rw [if_neg h]; exact List.Sublist.refl _
theorem without_ne {l : List S83} (hp : l.Pairwise Df) (s : ByteArray) : ∀ x ∈ Without l (AtF l s l.length 0), x.f0.f0 ≠ s := by
  have hat := AtF_spec (l := l) (s := s) l.length 0
  rw [show (((0 : Nat) : Int)) = (0 : Int) from rfl] at hat
  intro x hx
  rcases hat with ⟨a, h1, h2, h3, h4, h5⟩ | ⟨h1, h2⟩
  · rw [h3] at hx
    unfold Without at hx
    rw [if_pos (by omega), Int.toNat_natCast] at hx
    rw [rdK_at (by omega)] at h4
    rcases List.mem_append.1 hx with hx | hx
    · obtain ⟨j, hj, rfl⟩ := List.mem_iff_getElem.1 hx
      rw [List.length_take] at hj
      rw [List.getElem_take]
      have := h5 j (by omega) (by omega)
      rwa [rdK_at (by omega)] at this
    · obtain ⟨j, hj, rfl⟩ := List.mem_iff_getElem.1 hx
      rw [List.length_drop] at hj
      rw [List.getElem_drop]
      have := List.pairwise_iff_getElem.1 hp a (a + 1 + j) (by omega) (by omega) (by omega)
      intro q
      exact this (by rw [h4, q])
  · rw [h1] at hx
    unfold Without at hx
    rw [if_neg (by omega)] at hx
    obtain ⟨j, hj, rfl⟩ := List.mem_iff_getElem.1 hx
    have := h2 j (by omega) (by omega)
    rwa [rdK_at hj] at this
theorem keepN_ok {ns : List S26} (hsn : ∀ x ∈ ns, Szd x) {s : ByteArray} (ht : (s.size : Int) ≤ 1000000000) {now : Int} (h1 : NamesR ns = true) (h2 : TextR s = true) (h3 : 0 ≤ now ∧ now ≤ 900000) :
    Kp (KeepN (AskR ns s) now) ∧ (KeepN (AskR ns s) now).f0.f0 = s ∧ (KeepN (AskR ns s) now).f1 > now ∧ Szd (KeepN (AskR ns s) now).f0 := by
  obtain ⟨a1, a2, a3, a4⟩ := ask_ok hsn ht h1 h2
  have htm := name_time a1
  have hw : (KeepN (AskR ns s) now).f1 = now + (AskR ns s).2.2.2.2 := by show wrap64 _ = _; unfold wrap64; omega
  exact ⟨⟨a1, by rw [hw]; omega, by rw [hw]; omega⟩, bl_inj a2, by rw [hw]; omega, ⟨a3, a4⟩⟩
/-- Each that is kept is as the names have it. -/
def Cons (l : List S83) (ns : List S26) : Prop := ∀ x ∈ l, AskR ns x.f0.f0 = (x.f0.f0, x.f0.f1, x.f0.f2, x.f0.f3, x.f0.f4)
theorem keep_all {l : List S83} {ns : List S26} (hs : ∀ x ∈ l, Szd x.f0) (hsn : ∀ x ∈ ns, Szd x) {s : ByteArray} (ht : (s.size : Int) ≤ 1000000000) {now : Int} (hm : MayAsk l ns s now) :
    KeptR (KeepR l ns s now).1 = true ∧ (∀ x ∈ (KeepR l ns s now).1, Szd x.f0) ∧
    (KeepR (KeepR l ns s now).1 ns s now = ((KeepR l ns s now).1, (KeepR l ns s now).2.1, (KeepR l ns s now).2.2.1, (KeepR l ns s now).2.2.2.1, (KeepR l ns s now).2.2.2.2.1, (KeepR l ns s now).2.2.2.2.2.1, true)) ∧
    ((KeepR l ns s now).2.2.2.2.2.2 = true → (KeepR l ns s now).1 = l) ∧
    ((KeepR l ns s now).2.2.2.2.2.2 = false → ((KeepR l ns s now).2.1, (KeepR l ns s now).2.2.1, (KeepR l ns s now).2.2.2.1, (KeepR l ns s now).2.2.2.2.1, (KeepR l ns s now).2.2.2.2.2.1) = AskR ns s) ∧
    (Cons l ns → Cons (KeepR l ns s now).1 ns ∧ ((KeepR l ns s now).2.1, (KeepR l ns s now).2.2.1, (KeepR l ns s now).2.2.2.1, (KeepR l ns s now).2.2.2.2.1, (KeepR l ns s now).2.2.2.2.2.1) = AskR ns s) ∧
    (NameR (KeepR l ns s now).2.1 (KeepR l ns s now).2.2.1 (KeepR l ns s now).2.2.2.1 (KeepR l ns s now).2.2.2.2.1 (KeepR l ns s now).2.2.2.2.2.1 = true ∧ ((KeepR l ns s now).2.2.2.2.1.size : Int) ≤ 1000000000) := by
  obtain ⟨hk, ⟨h1, h2⟩, h3⟩ := hm
  obtain ⟨ka, kp, k5⟩ := (kept_iff l).1 hk
  obtain ⟨b1, b2, b3, b4⟩ := keepN_ok hsn ht h1 h2 h3
  obtain ⟨c1, c2, c3, c4⟩ := ask_ok hsn ht h1 h2
  by_cases c : AtF l s l.length 0 ≥ 0 ∧ (rd_T83 l (AtF l s l.length 0)).f1 > now
  · have e : KeepR l ns s now = (l, (rd_T83 l (AtF l s l.length 0)).f0.f0, (rd_T83 l (AtF l s l.length 0)).f0.f1, (rd_T83 l (AtF l s l.length 0)).f0.f2, (rd_T83 l (AtF l s l.length 0)).f0.f3, (rd_T83 l (AtF l s l.length 0)).f0.f4, true) := by unfold KeepR; rw [if_pos c]
    have hat := AtF_spec (l := l) (s := s) l.length 0
    rw [show (((0 : Nat) : Int)) = (0 : Int) from rfl] at hat
    rcases hat with ⟨a, q1, q2, q3, q4, q5⟩ | ⟨q1, q2⟩
    · have hmem : rd_T83 l (AtF l s l.length 0) ∈ l := by rw [q3, rdK_at (by omega)]; exact List.getElem_mem _
      rw [e]
      refine ⟨hk, hs, ?_, fun _ => rfl, fun q => by simp at q, fun hc => ⟨hc, ?_⟩, (ka _ hmem).1, (hs _ hmem).2⟩
      · exact e
      · have := hc _ hmem
        rw [q3] at this ⊢
        rw [q4] at this ⊢
        exact this.symm
    · exact absurd c.1 (by omega)
  · have e : KeepR l ns s now = (Last5 (Without l (AtF l s l.length 0) ++ [KeepN (AskR ns s) now]), (AskR ns s).1, (AskR ns s).2.1, (AskR ns s).2.2.1, (AskR ns s).2.2.2.1, (AskR ns s).2.2.2.2, false) := by unfold KeepR; rw [if_neg c]
    have hne := without_ne kp s
    have hsub := without_sub (l := l) (AtF l s l.length 0)
    rw [e]
    generalize Without l (AtF l s l.length 0) = X at hne hsub e
    generalize hN : KeepN (AskR ns s) now = N at b1 b2 b3 b4
    have hX5 : X.length ≤ 5 := Nat.le_trans hsub.length_le k5
    have hY : Last5 (X ++ [N]) = X.drop (X.length - 4) ++ [N] := by
      unfold Last5
      rw [List.length_append, List.length_singleton, List.drop_append_of_le_length (by omega), show X.length + 1 - 5 = X.length - 4 by omega]
    rw [hY]
    have hds : (X.drop (X.length - 4)).Sublist X := List.drop_sublist _ _
    generalize X.drop (X.length - 4) = Y at hds hY
    have hY4 : Y.length ≤ 5 := Nat.le_trans hds.length_le hX5
    have hYl : ∀ x ∈ Y, x ∈ l := fun x hx => (hds.trans hsub).subset hx
    have hYs : ∀ x ∈ Y, x.f0.f0 ≠ s := fun x hx => hne x (hds.subset hx)
    refine ⟨(kept_iff _).2 ⟨fun x hx => ?_, ?_, ?_⟩, fun x hx => ?_, ?_, fun q => by simp at q, fun _ => rfl, fun hc => ⟨fun x hx => ?_, rfl⟩, c1, c4⟩
    · rcases List.mem_append.1 hx with hx | hx
      · exact ka x (hYl x hx)
      · rw [List.mem_singleton.1 hx]; exact b1
    · refine List.pairwise_append.2 ⟨kp.sublist (hds.trans hsub), List.pairwise_singleton _ _, fun x hx y hy => ?_⟩
      rw [List.mem_singleton.1 hy]
      show x.f0.f0 ≠ N.f0.f0
      rw [b2]; exact hYs x hx
    · rw [← hY]
      unfold Last5
      rw [List.length_drop]; omega
    · rcases List.mem_append.1 hx with hx | hx
      · exact hs x (hYl x hx)
      · rw [List.mem_singleton.1 hx]; exact b4
    · have hlen : (Y ++ [N]).length = Y.length + 1 := by rw [List.length_append, List.length_singleton]
      have hat := AtF_spec (l := Y ++ [N]) (s := s) (Y ++ [N]).length 0
      rw [show (((0 : Nat) : Int)) = (0 : Int) from rfl] at hat
      have hlast : rd_T83 (Y ++ [N]) (Y.length : Int) = N := by rw [rdK_at (by omega)]; simp
      rcases hat with ⟨a, q1, q2, q3, q4, q5⟩ | ⟨q1, q2⟩
      · have ha : a = Y.length := by
          rcases Nat.lt_or_ge a Y.length with q | q
          · rw [rdK_at (by omega), List.getElem_append_left q] at q4
            exact absurd q4 (hYs _ (List.getElem_mem q))
          · omega
        unfold KeepR
        rw [q3, ha, hlast, if_pos ⟨by omega, b3⟩, ← hN]
        rfl
      · exact absurd (by rw [hlast]; exact b2) (q2 Y.length (by omega) (by omega))
    · rcases List.mem_append.1 hx with hx | hx
      · exact hc x (hYl x hx)
      · rw [List.mem_singleton.1 hx, b2, ← hN]
        have : (AskR ns s).1 = s := bl_inj c2
        exact Prod.ext this rfl

/-- What is kept behind a text that was followed at most d times, and the address for which it stands. -/
def KFindF (ns : List S26) (now : Int) : Nat → List S83 → ByteArray → List S83 × Int × Bool
  | 0, l, _ => (l, 0, false)
  | d + 1, l, s => if (KeepR l ns s now).2.2.1 = 1 then ((KeepR l ns s now).1, (KeepR l ns s now).2.2.2.1, true) else if (KeepR l ns s now).2.2.1 = 0 then ((KeepR l ns s now).1, 0, false) else KFindF ns now d (KeepR l ns s now).1 (KeepR l ns s now).2.2.2.2.1
/-- What is kept after a text was followed, and the address for which it stands. -/
def KeptFindR (l : List S83) (ns : List S26) (s : ByteArray) (now : Int) : List S83 × Int × Bool := if MayAsk l ns s now then KFindF ns now 5 l s else ([], 0, false)
theorem alias_ok {t al : ByteArray} {kd ad tm : Int} (h : NameR t kd ad al tm = true) (k1 : kd ≠ 1) (k0 : kd ≠ 0) : TextR al = true := by
  unfold NameR at h
  rw [if_neg k0, if_neg k1] at h
  by_cases c : kd = 2
  · rw [if_pos c] at h
    simp only [Bool.and_eq_true] at h
    exact h.2.2
  · rw [if_neg c] at h
    simp at h
theorem keep_next {l : List S83} {ns : List S26} (hs : ∀ x ∈ l, Szd x.f0) (hsn : ∀ x ∈ ns, Szd x) {s : ByteArray} (ht : (s.size : Int) ≤ 1000000000) {now : Int} (hm : MayAsk l ns s now) (k1 : (KeepR l ns s now).2.2.1 ≠ 1) (k0 : (KeepR l ns s now).2.2.1 ≠ 0) :
    (∀ x ∈ (KeepR l ns s now).1, Szd x.f0) ∧ ((KeepR l ns s now).2.2.2.2.1.size : Int) ≤ 1000000000 ∧ MayAsk (KeepR l ns s now).1 ns (KeepR l ns s now).2.2.2.2.1 now := by
  obtain ⟨g1, g2, _, _, _, _, g7, g8⟩ := keep_all hs hsn ht hm
  exact ⟨g2, g8, g1, ⟨hm.2.1.1, alias_ok g7 k1 k0⟩, hm.2.2⟩
theorem impl_kfind_l {ns : List S26} (hn : (ns.length : Int) ≤ 100000000) (hsn : ∀ x ∈ ns, Szd x) (now : Int) (d : Nat) : ∀ (l : List S83) (s : ByteArray) (i : Int), (∀ x ∈ l, Szd x.f0) → (s.size : Int) ≤ 1000000000 → MayAsk l ns s now → 0 ≤ i → i ≤ 5 → 5 - i = d → Evx (fun k => impl_KeptFind.l0 k ns s now l i) (fun r => r = KFindF ns now d l s) := by
  induction d with
  | zero =>
    intro l s i hs ht hm i0 i1 hd
    refine Evx.step (fun k => by rw [impl_KeptFind.l0]) ?_
    exact Evx.neg (by omega) (Evx.now rfl)
  | succ d ih =>
    intro l s i hs ht hm i0 i1 hd
    have e : wrap64 (i + 1) = i + 1 := by unfold wrap64; omega
    have h5 := ((kept_iff l).1 hm.1).2.2
    refine Evx.step (fun k => by rw [impl_KeptFind.l0]) (Evx.pos (by omega) ?_)
    rw [e]
    refine Evx.bind (impl_keep_x (by omega) hn s now) fun r1 e1 => ?_
    subst e1
    unfold KFindF
    refine Evx.ite (fun c => ?_) (fun c1 => ?_)
    · rw [if_pos c]; exact Evx.now rfl
    · rw [if_neg c1]
      refine Evx.ite (fun c => ?_) (fun c0 => ?_)
      · rw [if_pos c]; exact Evx.now rfl
      · rw [if_neg c0]
        obtain ⟨n1, n2, n3⟩ := keep_next hs hsn ht hm c1 c0
        exact ih _ _ _ n1 n2 n3 (by omega) (by omega) (by omega)
theorem spec_kfind_l {ns : List S26} (hn : (ns.length : Int) ≤ 100000000) (hsn : ∀ x ∈ ns, Szd x) (now : Int) (d : Nat) : ∀ (l : List S83) (s : ByteArray) (i : Int), (∀ x ∈ l, Szd x.f0) → (s.size : Int) ≤ 1000000000 → MayAsk l ns s now → 0 ≤ i → i ≤ 5 → 5 - i = d → Evx (fun k => spec_KeptFind.l0 k l ns s now i) (fun r => r = KFindF ns now d l s) := by
  induction d with
  | zero =>
    intro l s i hs ht hm i0 i1 hd
    refine Evx.step (fun k => by rw [spec_KeptFind.l0]) ?_
    exact Evx.neg (by omega) (Evx.now rfl)
  | succ d ih =>
    intro l s i hs ht hm i0 i1 hd
    have e : wrap64 (i + 1) = i + 1 := by unfold wrap64; omega
    have h5 := ((kept_iff l).1 hm.1).2.2
    refine Evx.step (fun k => by rw [spec_KeptFind.l0]) (Evx.pos (by omega) ?_)
    rw [e]
    refine Evx.bind (spec_keptask_x (l := l) (ns := ns) (by omega) hs hn hsn ht now) fun r1 e1 => ?_
    unfold KeptAskR at e1
    rw [if_pos hm] at e1
    subst e1
    unfold KFindF
    refine Evx.ite (fun c0 => ?_) (fun c0 => ?_)
    · rw [if_neg (by rw [c0]; decide), if_pos c0]; exact Evx.now rfl
    · refine Evx.ite (fun c => ?_) (fun c1 => ?_)
      · rw [if_pos c]; exact Evx.now rfl
      · rw [if_neg c1, if_neg c0]
        obtain ⟨n1, n2, n3⟩ := keep_next hs hsn ht hm c1 c0
        exact ih _ _ _ n1 n2 n3 (by omega) (by omega) (by omega)
theorem impl_keptfind_x {l : List S83} {ns : List S26} (hl : (l.length : Int) ≤ 100000000) (hs : ∀ x ∈ l, Szd x.f0) (hn : (ns.length : Int) ≤ 100000000) (hsn : ∀ x ∈ ns, Szd x) {s : ByteArray} (ht : (s.size : Int) ≤ 1000000000) (now : Int) : Evx (fun k => impl_KeptFind.f k l ns s now) (fun r => r = KeptFindR l ns s now) := by
  unfold impl_KeptFind.f KeptFindR
  refine Evx.bind (impl_keptOk_x hl hs hn hsn ht now) fun r1 e1 => ?_
  refine Evx.ite (fun h => ?_) (fun h => ?_)
  · have hm : MayAsk l ns s now := of_decide_eq_true (e1 ▸ h)
    rw [if_pos hm, impl_clone75 hl]
    exact Evx.sb (impl_kfind_l hn hsn now 5 l s 0 hs ht hm (by omega) (by omega) (by omega))
  · have hm : ¬ MayAsk l ns s now := fun q => h (by rw [e1]; exact decide_eq_true q)
    rw [if_neg hm]
    exact Evx.now rfl
theorem spec_keptfind_x {l : List S83} {ns : List S26} (hl : (l.length : Int) ≤ 100000000) (hs : ∀ x ∈ l, Szd x.f0) (hn : (ns.length : Int) ≤ 100000000) (hsn : ∀ x ∈ ns, Szd x) {s : ByteArray} (ht : (s.size : Int) ≤ 1000000000) (now : Int) : Evx (fun k => spec_KeptFind.f k l ns s now) (fun r => r = KeptFindR l ns s now) := by
  have hno : ¬ MayAsk l ns s now → Evx (fun k => spec_KeptFind.j0 k l ns s now true) (fun r => r = KeptFindR l ns s now) := fun hm => by
    unfold KeptFindR
    rw [if_neg hm]
    exact Evx.step (fun k => by rw [spec_KeptFind.j0]) (Evx.pos rfl (Evx.now rfl))
  unfold spec_KeptFind.f
  refine Evx.bind (spec_kept_x hl hs) fun r1 e1 => ?_
  subst e1
  refine Evx.ite (fun h1 => ?_) (fun h1 => hno (fun q => h1 q.1))
  refine Evx.bind (spec_names_x hn hsn) fun r2 e2 => ?_
  subst e2
  refine Evx.ite (fun h2 => ?_) (fun h2 => hno (fun q => h2 q.2.1.1))
  refine Evx.bind (spec_text_x ht) fun r3 e3 => ?_
  subst e3
  refine Evx.ite (fun h3 => ?_) (fun h3 => hno (fun q => h3 q.2.1.2))
  rw [spec_in_eq]
  refine Evx.sb ?_
  by_cases c : 0 ≤ now ∧ now ≤ 900000
  · have hm : MayAsk l ns s now := ⟨h1, ⟨h2, h3⟩, c⟩
    rw [decide_eq_true c]
    refine Evx.step (fun k => by rw [spec_KeptFind.j0]) (Evx.neg (by simp) ?_)
    unfold KeptFindR
    rw [if_pos hm]
    exact spec_kfind_l hn hsn now 5 l s 0 hs ht hm (by omega) (by omega) (by omega)
  · rw [decide_eq_false c]
    exact hno (fun q => c q.2.2)
theorem kfind_len {ns : List S26} (hsn : ∀ x ∈ ns, Szd x) (now : Int) (d : Nat) : ∀ (l : List S83) (s : ByteArray), (∀ x ∈ l, Szd x.f0) → (s.size : Int) ≤ 1000000000 → MayAsk l ns s now → KeptR (KFindF ns now d l s).1 = true ∧ ∀ x ∈ (KFindF ns now d l s).1, Szd x.f0 := by
  induction d with
  | zero => intro l s hs ht hm; exact ⟨hm.1, hs⟩
  | succ d ih =>
    intro l s hs ht hm
    obtain ⟨g1, g2, _⟩ := keep_all hs hsn ht hm
    unfold KFindF
    by_cases c1 : (KeepR l ns s now).2.2.1 = 1
    · rw [if_pos c1]; exact ⟨g1, g2⟩
    · rw [if_neg c1]
      by_cases c0 : (KeepR l ns s now).2.2.1 = 0
      · rw [if_pos c0]; exact ⟨g1, g2⟩
      · rw [if_neg c0]
        obtain ⟨n1, n2, n3⟩ := keep_next hs hsn ht hm c1 c0
        exact ih _ _ n1 n2 n3

/-- What is kept of the law's own kind, as of the program's. -/
def cvk (x : S81) : S83 := ⟨⟨x.f0.f0, x.f0.f1, x.f0.f2, x.f0.f3, x.f0.f4⟩, x.f1⟩
theorem rd83_set {l : List S83} {i j : Int} {v : S83} (i0 : 0 ≤ i) (i1 : i < l.length) (j0 : 0 ≤ j) : rd_T83 (l.set i.toNat v) j = if i = j then v else rd_T83 l j := by
  have hi : i.toNat < l.length := by omega
  unfold rd_T83
  rw [List.getD_eq_getElem?_getD, List.getD_eq_getElem?_getD, List.getElem?_set]
  by_cases h : i = j
  · subst h; rw [if_pos rfl, if_pos hi, if_pos rfl]; rfl
  · rw [if_neg (by omega), if_neg h]
theorem tok_l {l : List S81} (hl : (l.length : Int) ≤ 100000000) (d : Nat) : ∀ (x : List S83) (i : Int), x.length = l.length → 0 ≤ i → i ≤ l.length → l.length - i = d → (∀ j : Int, 0 ≤ j → j < i → rd_T83 x j = cvk (rd_T81 l j)) →
    Evx (fun k => laws_toKeptS.l0 k l x i) (fun r => r.length = l.length ∧ ∀ j : Int, 0 ≤ j → j < l.length → rd_T83 r j = cvk (rd_T81 l j)) := by
  induction d with
  | zero =>
    intro x i hx i0 hi hd H
    refine Evx.step (fun k => by rw [laws_toKeptS.l0]) ?_
    exact Evx.neg (by omega) (Evx.now ⟨hx, fun j j0 j1 => H j j0 (by omega)⟩)
  | succ d ih =>
    intro x i hx i0 hi hd H
    have e1 : wrap64 (i + 1) = i + 1 := by unfold wrap64; omega
    refine Evx.step (fun k => by rw [laws_toKeptS.l0]) (Evx.pos (by omega) (Evx.pos i0 ?_))
    unfold laws_toKept.f laws_toName.f
    simp only [Option.bind_some]
    rw [e1]
    refine Evx.pos (by omega) (ih _ _ (by simp [hx]) (by omega) (by omega) (by omega) fun j j0 j1 => ?_)
    rw [rd83_set i0 (by omega) j0]
    by_cases h : i = j
    · rw [if_pos h, ← h]; rfl
    · rw [if_neg h]; exact H j j0 (by omega)
theorem tok_x {l : List S81} (hl : (l.length : Int) ≤ 100000000) : Evx (fun k => laws_toKeptS.f k l) (fun r => r = l.map cvk) := by
  unfold laws_toKeptS.f
  refine Evx.pos (by omega) (Evx.pos (by omega) ?_)
  refine (tok_l hl l.length _ 0 (by simp) (by omega) (by omega) (by omega) (fun j j0 j1 => by omega)).mono fun r hr => ?_
  apply List.ext_getElem?
  intro j
  rcases Nat.lt_or_ge j l.length with q | q
  · have h := hr.2 (j : Int) (by omega) (by omega)
    unfold rd_T83 rd_T81 at h
    rw [Int.toNat_natCast, List.getD_eq_getElem?_getD, List.getD_eq_getElem?_getD, List.getElem?_eq_getElem (show j < r.length by omega), List.getElem?_eq_getElem q] at h
    rw [List.getElem?_eq_getElem (show j < r.length by omega), List.getElem?_map, List.getElem?_eq_getElem q]
    exact congrArg some h
  · rw [List.getElem?_eq_none (by omega), List.getElem?_eq_none (by simpa using q)]
theorem eqk_l {l : List S83} (hl : (l.length : Int) ≤ 100000000) (d : Nat) : ∀ i : Int, 0 ≤ i → i ≤ l.length → l.length - i = d →
    Evx (fun k => laws_eqKeptS.l0 k l l i) (fun r => r = true) := by
  induction d with
  | zero =>
    intro i i0 hi hd
    refine Evx.step (fun k => by rw [laws_eqKeptS.l0]) ?_
    exact Evx.neg (by omega) (Evx.now rfl)
  | succ d ih =>
    intro i i0 hi hd
    have e : wrap64 (i + 1) = i + 1 := by unfold wrap64; omega
    refine Evx.step (fun k => by rw [laws_eqKeptS.l0]) (Evx.pos (by omega) (Evx.pos i0 (Evx.pos (by omega) ?_)))
    have he : ∀ x : S83, laws_eqKept.f x.f0.f0 x.f0.f1 x.f0.f2 x.f0.f3 x.f0.f4 x.f1 x.f0.f0 x.f0.f1 x.f0.f2 x.f0.f3 x.f0.f4 x.f1 = some true := by intro x; unfold laws_eqKept.f laws_eqName.f; simp
    rw [he, e]
    simp only [Option.bind_some]
    exact Evx.pos trivial (ih _ (by omega) (by omega) (by omega))
theorem eqk_x {l : List S83} (hl : (l.length : Int) ≤ 100000000) : Evx (fun k => laws_eqKeptS.f k l l) (fun r => r = true) := by
  unfold laws_eqKeptS.f
  exact Evx.pos rfl (eqk_l hl l.length 0 (by omega) (by omega) (by omega))
theorem szk_l {l : List S81} (hl : (l.length : Int) ≤ 100000000) (hw : ∀ x ∈ l, x.f0.f0.size ≤ maxLen ∧ x.f0.f3.size ≤ maxLen) (d : Nat) : ∀ (i a : Int), 0 ≤ i → i ≤ l.length → l.length - i = d → 0 ≤ a → a ≤ 1048576 →
    Evx (fun k => laws_szKeptS.l0 k l a i) (fun r => r < 0 ∨ (0 ≤ r ∧ r ≤ a ∧ ∀ j : Int, i ≤ j → j < l.length → Szd (cvk (rd_T81 l j)).f0)) := by
  induction d with
  | zero =>
    intro i a i0 hi hd a0 a1
    refine Evx.step (fun k => by rw [laws_szKeptS.l0]) ?_
    exact Evx.neg (by omega) (Evx.now (.inr ⟨a0, by omega, fun j h1 h2 => by omega⟩))
  | succ d ih =>
    intro i a i0 hi hd a0 a1
    have e : wrap64 (i + 1) = i + 1 := by unfold wrap64; omega
    have hm : rd_T81 l i ∈ l := by
      unfold rd_T81
      rw [List.getD_eq_getElem?_getD, List.getElem?_eq_getElem (show i.toNat < l.length by omega)]
      exact List.getElem_mem _
    obtain ⟨w0, w3⟩ := hw _ hm
    unfold maxLen at w0 w3
    refine Evx.step (fun k => by rw [laws_szKeptS.l0]) (Evx.pos (by omega) (Evx.pos i0 ?_))
    unfold laws_szKept.f laws_szName.f
    rw [e]
    generalize hx : rd_T81 l i = x at hm w0 w3 ⊢
    by_cases c1 : wrap64 (a - (x.f0.f0.size : Int)) < 0
    · rw [if_pos c1]; simp only [Option.bind_some]; rw [if_pos (by omega)]; simp only [Option.bind_some]; exact Evx.pos (by omega) (Evx.now (.inl (by omega)))
    · rw [if_neg c1]
      have e1 : wrap64 (a - (x.f0.f0.size : Int)) = a - x.f0.f0.size := by unfold wrap64; omega
      rw [e1] at c1 ⊢
      by_cases c2 : wrap64 (a - (x.f0.f0.size : Int) - (x.f0.f3.size : Int)) < 0
      · rw [if_pos c2]; simp only [Option.bind_some]; rw [if_pos (by omega)]; simp only [Option.bind_some]; exact Evx.pos (by omega) (Evx.now (.inl (by omega)))
      · rw [if_neg c2]
        have e2 : wrap64 (a - (x.f0.f0.size : Int) - (x.f0.f3.size : Int)) = a - x.f0.f0.size - x.f0.f3.size := by unfold wrap64; omega
        rw [e2] at c2 ⊢
        simp only [Option.bind_some]
        rw [if_neg c2]
        simp only [Option.bind_some]
        refine Evx.neg (by omega) ((ih (i + 1) _ (by omega) (by omega) (by omega) (by omega) (by omega)).mono fun r hr => ?_)
        rcases hr with hr | ⟨r0, r1, hr⟩
        · exact .inl hr
        · refine .inr ⟨r0, by omega, fun j h1 h2 => ?_⟩
          by_cases q : j = i
          · rw [q, hx]; exact ⟨by show (x.f0.f0.size : Int) ≤ _; omega, by show (x.f0.f3.size : Int) ≤ _; omega⟩
          · exact hr j (by omega) h2
theorem szk_x {l : List S81} (hm : l.length ≤ 9223372036854775807) (hw : ∀ x ∈ l, x.f0.f0.size ≤ maxLen ∧ x.f0.f3.size ≤ maxLen) {a : Int} (a0 : 0 ≤ a) (a1 : a ≤ 1048576) : Evx (fun f => laws_szKeptS.f f l a) (fun r => r < 0 ∨ ((0 ≤ r ∧ r ≤ a) ∧ (l.length : Int) ≤ 1048576 ∧ ∀ x ∈ l.map cvk, Szd x.f0)) := by
  unfold laws_szKeptS.f
  refine Evx.ite (fun c => Evx.now (.inl (by omega))) (fun c => ?_)
  have e : wrap64 (a - (l.length : Int)) = a - l.length := by unfold wrap64; omega
  rw [e] at c ⊢
  refine (szk_l (by omega) hw l.length 0 _ (by omega) (by omega) (by omega) (by omega) (by omega)).mono fun r hr => hr.elim .inl (fun q => .inr ⟨⟨q.1, by omega⟩, by omega, ?_⟩)
  intro x hx
  obtain ⟨y, hy, rfl⟩ := List.mem_map.1 hx
  obtain ⟨j, hj, he⟩ := List.mem_iff_getElem.1 hy
  have := q.2.2 (j : Int) (by omega) (by omega)
  unfold rd_T81 at this
  rw [Int.toNat_natCast, List.getD_eq_getElem?_getD, List.getElem?_eq_getElem hj] at this
  rw [← he]; exact this

theorem mt_l (d : Nat) : ∀ (a : Int) (x : ByteArray), 0 ≤ a → a < 10 ^ d → x.size + d ≤ 1000 → a ≤ 1000000000 → Evx (fun k => laws_markText.l0 k a x) (fun _ => True) := by
  induction d with
  | zero =>
    intro a x a0 a1 hx ha
    have a1 : a < 1 := by simpa using a1
    exact Evx.step (fun k => by rw [laws_markText.l0]) (Evx.neg (by omega) (Evx.pos (by omega) (Evx.now trivial)))
  | succ d ih =>
    intro a x a0 a1 hx ha
    refine Evx.step (fun k => by rw [laws_markText.l0]) (Evx.ite (fun c => ?_) (fun c => Evx.pos (by omega) (Evx.now trivial)))
    have h1 : Int.tdiv a 10 = a / 10 := Int.tdiv_eq_ediv_of_nonneg a0
    have h2 : wrap64 (a / 10) = a / 10 := by unfold wrap64; omega
    have h3 : a / 10 < 10 ^ d := by
      rw [Int.pow_succ] at a1
      omega
    have hs : ∀ n : Int, (strOfNums [n]).size = 1 := fun n => rfl
    rw [h1, h2]
    simp only [Option.bind_some]
    refine Evx.pos (by rw [hs]; omega) (ih _ _ (by omega) h3 ?_ (by omega))
    rw [ByteArray.size_append, hs]; omega
theorem mt_ex : ∃ MT : Int → ByteArray, ∀ a : Int, 0 < a → a ≤ 1000000000 → Evx (fun k => laws_markText.f k a) (fun r => r = MT a) := by
  have h : ∀ a : Int, ∃ s : ByteArray, 0 < a → a ≤ 1000000000 → Ev (fun k => laws_markText.f k a) s := by
    intro a
    by_cases c : 0 < a ∧ a ≤ 1000000000
    · have h1 : Evx (fun k => laws_markText.f k a) (fun _ => True) := by
        unfold laws_markText.f
        refine Evx.neg (by omega) (mt_l 10 a _ (by omega) ?_ (by decide) (by omega))
        have : (10 : Int) ^ 10 = 10000000000 := by decide
        omega
      obtain ⟨r, hr, _⟩ := h1
      exact ⟨r, fun _ _ => hr⟩
    · exact ⟨ByteArray.empty, fun h1 h2 => absurd ⟨h1, h2⟩ c⟩
  obtain ⟨MT, hMT⟩ := Classical.axiomOfChoice h
  exact ⟨MT, fun a h1 h2 => ⟨MT a, hMT a h1 h2, rfl⟩⟩
/-- What is kept, marked from a number on. -/
def MarkK (MT : Int → ByteArray) (a : Int) : S83 := ⟨⟨MT a, a + 1, a + 2, MT (a + 3), a + 4⟩, a + 5⟩
theorem w1 {a : Int} (h0 : 0 < a) (h1 : a ≤ 100000000) : wrap64 (a + 1) = a + 1 ∧ wrap64 (a + 1 + 1) = a + 2 ∧ wrap64 (a + 2 + 1) = a + 3 ∧ wrap64 (a + 3 + 1) = a + 4 ∧ wrap64 (a + 4 + 1) = a + 5 ∧ wrap64 (a + 5 + 1) = a + 6 := by
  unfold wrap64; omega
theorem markk_l {MT : Int → ByteArray} (hMT : ∀ a : Int, 0 < a → a ≤ 1000000000 → Evx (fun k => laws_markText.f k a) (fun r => r = MT a)) (d : Nat) : ∀ (x : List S83) (a i : Int), (x.length : Int) ≤ 100000000 → 0 ≤ i → i ≤ x.length → x.length - i = d → 0 < a → a + 6 * d ≤ 50000000 →
    Evx (fun k => laws_markKeptS.l0 k x a i) (fun r => r.1 = a + 6 * d ∧ r.2.length = x.length ∧ (∀ j : Int, 0 ≤ j → j < i → rd_T83 r.2 j = rd_T83 x j) ∧ ∀ j : Int, i ≤ j → j < x.length → rd_T83 r.2 j = MarkK MT (a + 6 * (j - i))) := by
  induction d with
  | zero =>
    intro x a i hl i0 i1 hd a0 a1
    exact Evx.step (fun k => by rw [laws_markKeptS.l0]) (Evx.neg (by omega) (Evx.now ⟨by show a = _; omega, rfl, fun _ _ _ => rfl, fun j h1 h2 => by omega⟩))
  | succ d ih =>
    intro x a i hl i0 i1 hd a0 a1
    have e : wrap64 (i + 1) = i + 1 := by unfold wrap64; omega
    obtain ⟨e1, e2, e3, e4, e5, e6⟩ := w1 a0 (by omega)
    refine Evx.step (fun k => by rw [laws_markKeptS.l0]) (Evx.pos (by omega) ?_)
    rw [e1, e2, e3, e4, e5, e6, e]
    refine Evx.bind (hMT a a0 (by omega)) fun s1 h1 => Evx.bind (hMT (a + 3) (by omega) (by omega)) fun s2 h2 => Evx.pos i0 ?_
    subst h1 h2
    refine (ih _ (a + 6) (i + 1) (by rw [List.length_set]; omega) (by omega) (by rw [List.length_set]; omega) (by rw [List.length_set]; omega) (by omega) (by omega)).mono fun r hr => ?_
    obtain ⟨r1, r2, r3, r4⟩ := hr
    rw [List.length_set] at r2 r4
    refine ⟨by omega, r2, fun j j0 j1 => ?_, fun j j0 j1 => ?_⟩
    · rw [r3 j j0 (by omega), rd83_set i0 (by omega) j0, if_neg (by omega)]
    · by_cases q : j = i
      · rw [q, r3 i i0 (by omega), rd83_set i0 (by omega) i0, if_pos rfl, show a + 6 * (i - i) = a by omega]
        rfl
      · rw [r4 j (by omega) j1, show a + 6 + 6 * (j - (i + 1)) = a + 6 * (j - i) by omega]
theorem heldk_l {MT : Int → ByteArray} (hMT : ∀ a : Int, 0 < a → a ≤ 1000000000 → Evx (fun k => laws_markText.f k a) (fun r => r = MT a)) {y : List S83} (hl : (y.length : Int) ≤ 100000000) (d : Nat) : ∀ (a i : Int), 0 ≤ i → i ≤ y.length → y.length - i = d → 0 < a → a + 6 * d ≤ 50000000 → (∀ j : Int, i ≤ j → j < y.length → rd_T83 y j = MarkK MT (a + 6 * (j - i))) →
    Evx (fun k => laws_heldKeptS.l0 k y a i) (fun r => r = a + 6 * d) := by
  induction d with
  | zero =>
    intro a i i0 i1 hd a0 a1 h
    exact Evx.step (fun k => by rw [laws_heldKeptS.l0]) (Evx.neg (by omega) (Evx.now (by omega)))
  | succ d ih =>
    intro a i i0 i1 hd a0 a1 h
    have e : wrap64 (i + 1) = i + 1 := by unfold wrap64; omega
    obtain ⟨e1, e2, e3, e4, e5, e6⟩ := w1 a0 (by omega)
    have hy := h i (by omega) (by omega)
    rw [show a + 6 * (i - i) = a by omega] at hy
    refine Evx.step (fun k => by rw [laws_heldKeptS.l0]) (Evx.pos (by omega) (Evx.pos i0 ?_))
    rw [hy, e1, e2, e3, e4, e5, e6, e]
    refine Evx.bind (hMT a a0 (by omega)) fun s1 h1 => Evx.pos (by rw [h1]; rfl) (Evx.pos rfl (Evx.pos rfl ?_))
    refine Evx.bind (hMT (a + 3) (by omega) (by omega)) fun s2 h2 => Evx.pos (by rw [h2]; rfl) (Evx.pos rfl (Evx.pos rfl ?_))
    exact (ih (a + 6) (i + 1) (by omega) (by omega) (by omega) (by omega) (by omega) (fun j j0 j1 => by rw [h j (by omega) j1, show a + 6 + 6 * (j - (i + 1)) = a + 6 * (j - i) by omega])).mono fun r hr => by omega
theorem markn_l {MT : Int → ByteArray} (hMT : ∀ a : Int, 0 < a → a ≤ 1000000000 → Evx (fun k => laws_markText.f k a) (fun r => r = MT a)) (d : Nat) : ∀ (x : List S26) (a i : Int), (x.length : Int) ≤ 100000000 → 0 ≤ i → i ≤ x.length → x.length - i = d → 0 < a → a + 6 * d ≤ 50000000 →
    Evx (fun k => laws_markNameS.l0 k x a i) (fun r => 0 < r.1) := by
  induction d with
  | zero =>
    intro x a i hl i0 i1 hd a0 a1
    exact Evx.step (fun k => by rw [laws_markNameS.l0]) (Evx.neg (by omega) (Evx.now a0))
  | succ d ih =>
    intro x a i hl i0 i1 hd a0 a1
    have e : wrap64 (i + 1) = i + 1 := by unfold wrap64; omega
    obtain ⟨e1, e2, e3, e4, e5, e6⟩ := w1 a0 (by omega)
    refine Evx.step (fun k => by rw [laws_markNameS.l0]) (Evx.pos (by omega) ?_)
    rw [e1, e2, e3, e4, e5, e]
    refine Evx.bind (hMT a a0 (by omega)) fun s1 h1 => Evx.pos i0 (Evx.sb (Evx.sb (Evx.sb (Evx.bind (hMT (a + 3) (by omega) (by omega)) fun s2 h2 => Evx.sb ?_))))
    exact ih _ (a + 5) (i + 1) (by simp only [List.length_set]; omega) (by omega) (by simp only [List.length_set]; omega) (by simp only [List.length_set]; omega) (by omega) (by omega)

theorem FnExactKeptFind : Go.Proofs.Ytmgnmgobibpjjaa.ShpFnExactKeptFind.Pure := by
  intro l ns s now hW hWn hs0 hnow
  refine Evx.law (g := fun f => laws_FnExactKeptFind.f f l ns s now) ?_
  have hm : l.length ≤ maxLen := hW.1
  have hw : ∀ x ∈ l, x.f0.f0.size ≤ maxLen ∧ x.f0.f3.size ≤ maxLen := fun x hx => ⟨(hW.2 x hx).1.1, (hW.2 x hx).1.2.2.2.1⟩
  have hmn : ns.length ≤ maxLen := hWn.1
  have hwn : ∀ x ∈ ns, x.f0.size ≤ maxLen ∧ x.f3.size ≤ maxLen := fun x hx => ⟨(hWn.2 x hx).1, (hWn.2 x hx).2.2.2.1⟩
  unfold maxLen at hm hmn hs0
  obtain ⟨MT, hMT⟩ := mt_ex
  unfold laws_FnExactKeptFind.f
  refine Evx.ite (fun _ => Evx.now rfl) (fun cs => ?_)
  have ht : (s.size : Int) ≤ 1000000000 := by omega
  refine Evx.bind (szk_x (by omega) hw (by omega) (by omega)) fun r0 h0' => ?_
  refine Evx.ite (fun _ => Evx.now rfl) (fun c0 => ?_)
  obtain ⟨hr0, hl, hs⟩ := h0'.resolve_left c0
  refine Evx.bind (sz_x (by omega) hwn hr0.1 (by omega)) fun r1 h1' => ?_
  refine Evx.ite (fun _ => Evx.now rfl) (fun c1 => ?_)
  obtain ⟨hln, hsn⟩ := h1'.resolve_left c1
  have hl1 : (l.length : Int) ≤ 100000000 := by omega
  have hn1 : (ns.length : Int) ≤ 100000000 := by omega
  have hl' : ((l.map cvk).length : Int) ≤ 100000000 := by rw [List.length_map]; exact hl1
  have hn' : ((ns.map cv).length : Int) ≤ 100000000 := by rw [List.length_map]; exact hn1
  refine Evx.bind (tok_x hl1) fun a1 e1 => ?_
  subst e1
  refine Evx.bind (to_x hn1) fun a2 e2 => ?_
  subst e2
  refine Evx.bind (spec_keptfind_x hl' hs hn' hsn ht now) fun r2 e2 => ?_
  refine Evx.bind (tok_x hl1) fun a3 e3 => ?_
  subst e3
  refine Evx.bind (to_x hn1) fun a4 e4 => ?_
  subst e4
  refine Evx.bind (impl_keptfind_x hl' hs hn' hsn ht now) fun r3 e3 => ?_
  rw [← e2] at e3
  subst e3
  have h5 : r3.1.length ≤ 5 := by
    rw [e2]; unfold KeptFindR
    split
    · rename_i hm
      exact ((kept_iff _).1 (kfind_len hsn now 5 _ s hs ht hm).1).2.2
    · exact Nat.zero_le _
  refine Evx.bind (eqk_x (by omega)) fun b1 h1 => Evx.pos h1 ?_
  refine Evx.pos rfl ?_
  refine Evx.step (fun k => by rw [laws_FnExactKeptFind.j0]) (Evx.neg (by simp) ?_)
  refine Evx.bind (tok_x hl1) fun a5 e5 => ?_
  subst e5
  refine Evx.bind (eqk_x hl') fun b2 h2 => Evx.pos h2 ?_
  refine Evx.bind (to_x hn1) fun a6 e6 => ?_
  subst e6
  refine Evx.bind (eq_x hn') fun b3 h3 => Evx.pos h3 ?_
  have hml : ((l.map cvk).length : Int) ≤ 1048576 := by rw [List.length_map]; omega
  have hmln : ((ns.map cv).length : Int) ≤ 1048576 := by rw [List.length_map]; omega
  refine Evx.bind (show Evx (fun k => laws_markKeptS.f k (l.map cvk) 1) _ from by unfold laws_markKeptS.f; exact markk_l hMT (l.map cvk).length (l.map cvk) 1 0 (by omega) (by omega) (by omega) (by omega) (by omega) (by omega)) fun m1 q1 => ?_
  refine Evx.bind (show Evx (fun k => laws_markNameS.f k (ns.map cv) m1.1) _ from by unfold laws_markNameS.f; exact markn_l hMT (ns.map cv).length (ns.map cv) m1.1 0 (by omega) (by omega) (by omega) (by omega) (by omega) (by omega)) fun m2 q2 => ?_
  refine Evx.neg (by omega) ?_
  refine Evx.bind (eqk_x (by omega)) fun b4 h4 => Evx.pos h4 ?_
  refine Evx.pos rfl ?_
  refine Evx.step (fun k => by rw [laws_FnExactKeptFind.j1]) (Evx.neg (by simp) ?_)
  refine Evx.bind (show Evx (fun k => laws_markKeptS.f k r3.1 1) _ from by unfold laws_markKeptS.f; exact markk_l hMT r3.1.length r3.1 1 0 (by omega) (by omega) (by omega) (by omega) (by omega) (by omega)) fun m3 q3 => ?_
  obtain ⟨u1, u2, u3, u4⟩ := q3
  have hh := heldk_l hMT (y := m3.2) (by omega) m3.2.length 1 0 (by omega) (by omega) (by omega) (by omega) (by omega) (fun j j0 j1 => u4 j j0 (by omega))
  refine Evx.bind (show Evx (fun k => laws_heldKeptS.f k m3.2 1) _ from by unfold laws_heldKeptS.f; exact hh) fun g1 v1 => ?_
  refine Evx.neg (by omega) (Evx.pos (by omega) ?_)
  refine Evx.bind (tok_x hl1) fun a7 e7 => ?_
  subst e7
  refine Evx.bind (to_x hn1) fun a8 e8 => ?_
  subst e8
  refine Evx.bind (impl_keptfind_x hl' hs hn' hsn ht now) fun r4 e4 => ?_
  rw [← e2] at e4
  subst e4
  refine Evx.bind (eqk_x (by omega)) fun b5 h5 => Evx.pos h5 ?_
  refine Evx.pos rfl ?_
  refine Evx.step (fun k => by rw [laws_FnExactKeptFind.j2]) (Evx.neg (by simp) ?_)
  refine Evx.bind (show Evx (fun k => laws_heldKeptS.f k m3.2 1) _ from by unfold laws_heldKeptS.f; exact hh) fun g2 v2 => ?_
  exact Evx.neg (by omega) (Evx.pos (by omega) (Evx.now rfl))

end Go.Proofs.Ytmgnmgobibpjjaa.Pure
