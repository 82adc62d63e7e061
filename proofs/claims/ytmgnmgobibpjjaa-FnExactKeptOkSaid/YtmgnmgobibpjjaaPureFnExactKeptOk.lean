/- The plain statement of FnExactKeptOk: for all arguments, the law's function comes to true; there is no condition beyond those it names. -/
import Derived.Test.YtmgnmgobibpjjaaShpFnExactKeptOk
set_option linter.unusedVariables false
set_option linter.unusedSimpArgs false
set_option maxRecDepth 100000
namespace Go.Proofs.Ytmgnmgobibpjjaa.Pure
open Go.RowKit Go.Proofs.Ytmgnmgobibpjjaa.GFnExactKeptOk Go.Proofs.YtmgnmgobibpjjaaU.PrintWords Go.Proofs.YtmgnmgobibpjjaaU.PrintLast Go.Proofs.YtmgnmgobibpjjaaU.PrintMore

theorem w64 {x : Int} (h0 : -9223372036854775808 ≤ x) (h1 : x ≤ 9223372036854775807) : wrap64 x = x := by unfold wrap64; omega

/-- It comes to an answer of which P holds. -/
def Evx {α : Type} (g : Nat → Option α) (P : α → Prop) : Prop := ∃ r, Ev g r ∧ P r
theorem Evx.bind {α β : Type} {g : Nat → Option α} {f : Nat → α → Option β} {P : α → Prop} {Q : β → Prop} (h : Evx g P) (k : ∀ a, P a → Evx (fun n => f n a) Q) : Evx (fun n => (g n).bind (f n)) Q := by
  obtain ⟨a, ha, pa⟩ := h
  obtain ⟨r, hr, qr⟩ := k a pa
  exact ⟨r, Ev.bind ha hr, qr⟩
theorem Evx.now {α : Type} {P : α → Prop} {r : α} (h : P r) : Evx (fun _ => some r) P := ⟨r, Ev.now r, h⟩
theorem Evx.pos {α : Type} {c : Prop} [Decidable c] {f g : Nat → Option α} {P : α → Prop} (hc : c) (h : Evx f P) : Evx (fun n => if c then f n else g n) P := by
  simp only [if_pos hc]; exact h
theorem Evx.neg {α : Type} {c : Prop} [Decidable c] {f g : Nat → Option α} {P : α → Prop} (hc : ¬ c) (h : Evx g P) : Evx (fun n => if c then f n else g n) P := by
  simp only [if_neg hc]; exact h
theorem Evx.ite {α : Type} {c : Prop} [Decidable c] {f g : Nat → Option α} {P : α → Prop} (h : c → Evx f P) (k : ¬ c → Evx g P) : Evx (fun n => if c then f n else g n) P := by
  by_cases hc : c
  · exact Evx.pos hc (h hc)
  · exact Evx.neg hc (k hc)
theorem Evx.step {α : Type} {g f : Nat → Option α} {P : α → Prop} (h : ∀ k, g (k + 1) = f k) (k : Evx f P) : Evx g P := by
  obtain ⟨r, hr, p⟩ := k
  exact ⟨r, Ev.step h hr, p⟩
theorem Evx.mono {α : Type} {g : Nat → Option α} {P Q : α → Prop} (h : Evx g P) (k : ∀ r, P r → Q r) : Evx g Q := by
  obtain ⟨r, hr, p⟩ := h
  exact ⟨r, hr, k r p⟩
theorem Evx.law {g : Nat → Option Bool} (h : Evx g (fun r => r = true)) : ∃ k, g k = some true := by
  obtain ⟨r, hr, rfl⟩ := h
  exact hr.rounds
theorem Evx.of {α : Type} {g : Nat → Option α} {r : α} {P : α → Prop} (hg : ∀ k, LeO (g k) (g (k + 1))) {k : Nat} (h : g k = some r) (p : P r) : Evx g P := ⟨r, Ev.of hg h, p⟩

/-- All are bytes. -/
def Byt (l : List Int) : Prop := ∀ x ∈ l, 0 ≤ x ∧ x ≤ 255
theorem byt_wf {l : List Int} (h : ∀ x ∈ l, (Lit.int .u8 x).wf = true) : Byt l := by
  intro x hx
  have := h x hx
  simp [Lit.wf, IntKind.min, IntKind.max, IntKind.signed, IntKind.bits] at this
  omega
theorem byt_rd {l : List Int} (h : Byt l) (i : Int) : 0 ≤ rd l i ∧ rd l i ≤ 255 := by
  unfold rd
  by_cases hi : i.toNat < l.length
  · rw [List.getD_eq_getElem?_getD, List.getElem?_eq_getElem hi]; exact h _ (List.getElem_mem hi)
  · rw [List.getD_eq_getElem?_getD, List.getElem?_eq_none (by omega)]; simp
theorem xor_nn {x y : Int} (hx : 0 ≤ x) (hx1 : x < 4611686018427387904) (hy : 0 ≤ y) (hy1 : y < 4611686018427387904) : 0 ≤ Go.bits .xor .i64 x y := by
  obtain ⟨a, rfl⟩ := Int.eq_ofNat_of_zero_le hx
  obtain ⟨b, rfl⟩ := Int.eq_ofNat_of_zero_le hy
  have ha : a < 2 ^ 62 := by omega
  have hb : b < 2 ^ 62 := by omega
  have hc := Nat.xor_lt_two_pow ha hb
  unfold Go.bits
  simp only [BitVec.ofInt_natCast, BitVec.toNat_xor, BitVec.toNat_ofNat]
  rw [IntKind.wrap_i64]
  have e : IntKind.i64.bits = 64 := rfl
  rw [e, Nat.mod_eq_of_lt (by omega), Nat.mod_eq_of_lt (by omega)]
  omega

theorem impl_in_eq (a b c : Int) : impl_in.f a b c = some (decide (b ≤ a ∧ a ≤ c)) := by
  unfold impl_in.f
  by_cases h : b ≤ a
  · rw [if_pos h]; simp [h]
  · rw [if_neg (by omega)]; simp [h]
theorem spec_in_eq (a b c : Int) : spec_l1In.f a b c = some (decide (b ≤ a ∧ a ≤ c)) := by
  unfold spec_l1In.f
  by_cases h : b ≤ a
  · rw [if_pos h]; simp [h]
  · rw [if_neg (by omega)]; simp [h]

theorem rd_drop {l : List Int} {i : Int} (h0 : 0 ≤ i) (h1 : i < l.length) : l.drop i.toNat = rd l i :: l.drop (i + 1).toNat := by
  have hi : i.toNat < l.length := by omega
  rw [List.drop_eq_getElem_cons hi]
  unfold rd
  rw [List.getD_eq_getElem?_getD, List.getElem?_eq_getElem hi]
  have : (i + 1).toNat = i.toNat + 1 := by omega
  rw [this]; rfl
/-- A small letter. -/
def Ltr (b : Int) : Bool := decide (97 ≤ b) && decide (b ≤ 122)
/-- A text of a name. -/
def TextR (s : ByteArray) : Bool := (bytesOf s).all Ltr && decide (1 ≤ (s.size : Int) ∧ (s.size : Int) ≤ 12)
theorem all_cons {b : Int} {l : List Int} : (b :: l).all Ltr = (Ltr b && l.all Ltr) := rfl
theorem spec_text_l {s : ByteArray} (hm : (s.size : Int) ≤ 1000000000) (d : Nat) : ∀ i : Int, 0 ≤ i → i ≤ s.size → s.size - i = d →
    Evx (fun k => spec_l19Word.l0 k s i) (fun r => r = (((bytesOf s).drop i.toNat).all Ltr && decide (1 ≤ (s.size : Int) ∧ (s.size : Int) ≤ 12))) := by
  have hl := bytesOf_length s
  induction d with
  | zero =>
    intro i i0 i1 hd
    refine Evx.step (fun k => by rw [spec_l19Word.l0]) (Evx.neg (by omega) ?_)
    simp only [spec_in_eq, Option.bind_some]
    refine Evx.now ?_
    rw [List.drop_of_length_le (by omega)]; rfl
  | succ d ih =>
    intro i i0 i1 hd
    have e : wrap64 (i + 1) = i + 1 := by unfold wrap64; omega
    refine Evx.step (fun k => by rw [spec_l19Word.l0]) (Evx.pos (by omega) (Evx.pos i0 ?_))
    rw [e, ← rd_bytesOf, rd_drop i0 (by omega), all_cons]
    refine Evx.ite (fun h => Evx.now ?_) (fun h => Evx.ite (fun h2 => Evx.now ?_) (fun h2 => ?_))
    · unfold Ltr; rw [decide_eq_false (show ¬ 97 ≤ rd (bytesOf s) i by omega)]; simp
    · unfold Ltr; rw [decide_eq_false (show ¬ rd (bytesOf s) i ≤ 122 by omega)]; simp
    · have hL : Ltr (rd (bytesOf s) i) = true := by unfold Ltr; simp; omega
      rw [hL, Bool.true_and]
      exact ih _ (by omega) (by omega) (by omega)
theorem spec_text_x {s : ByteArray} (hm : (s.size : Int) ≤ 1000000000) : Evx (fun k => spec_l19Word.f k s) (fun r => r = TextR s) := by
  unfold spec_l19Word.f
  exact spec_text_l hm s.size 0 (by omega) (by omega) (by omega)
theorem impl_text_l {s : ByteArray} (hm : (s.size : Int) ≤ 1000000000) (d : Nat) : ∀ i : Int, 0 ≤ i → i ≤ s.size → s.size - i = d →
    Evx (fun k => impl_textOk.l0 k s (bytesOf s) (s.size : Int) i) (fun r => r = (((bytesOf s).drop i.toNat).all Ltr && decide (1 ≤ (s.size : Int) ∧ (s.size : Int) ≤ 12))) := by
  have hl := bytesOf_length s
  induction d with
  | zero =>
    intro i i0 i1 hd
    refine Evx.step (fun k => by rw [impl_textOk.l0]) (Evx.neg (by omega) ?_)
    simp only [impl_in_eq, Option.bind_some]
    refine Evx.now ?_
    rw [List.drop_of_length_le (by omega)]; rfl
  | succ d ih =>
    intro i i0 i1 hd
    have e : wrap64 (i + 1) = i + 1 := by unfold wrap64; omega
    refine Evx.step (fun k => by rw [impl_textOk.l0]) (Evx.pos (by omega) (Evx.pos i0 (Evx.pos (by omega) ?_)))
    rw [e, rd_drop i0 (by omega), all_cons]
    refine Evx.ite (fun h => Evx.now ?_) (fun h => Evx.ite (fun h2 => Evx.now ?_) (fun h2 => ?_))
    · unfold Ltr; rw [decide_eq_false (show ¬ 97 ≤ rd (bytesOf s) i by omega)]; simp
    · unfold Ltr; rw [decide_eq_false (show ¬ rd (bytesOf s) i ≤ 122 by omega)]; simp
    · have hL : Ltr (rd (bytesOf s) i) = true := by unfold Ltr; simp; omega
      rw [hL, Bool.true_and]
      exact ih _ (by omega) (by omega) (by omega)
theorem impl_text_x {s : ByteArray} (hm : (s.size : Int) ≤ 1000000000) : Evx (fun k => impl_textOk.f k s) (fun r => r = TextR s) := by
  unfold impl_textOk.f
  simp only [Option.bind_some, List.nil_append]
  rw [bytesOf_length]
  exact Evx.pos (by simp; omega) (impl_text_l hm s.size 0 (by omega) (by omega) (by omega))
/-- A name. -/
def NameR (t : ByteArray) (k a : Int) (al : ByteArray) (tm : Int) : Bool :=
  TextR t && decide (1 ≤ tm ∧ tm ≤ 50) && (if k = 0 then decide (a = 0) && (al.toList == ([] : List UInt8)) else if k = 1 then decide (0 ≤ a ∧ a ≤ 65535) && (al.toList == ([] : List UInt8)) else if k = 2 then decide (a = 0) && TextR al else false)
theorem spec_name_x {t al : ByteArray} (k a tm : Int) (ht : (t.size : Int) ≤ 1000000000) (hal : (al.size : Int) ≤ 1000000000) : Evx (fun n => spec_NameOk.f n t k a al tm) (fun r => r = NameR t k a al tm) := by
  unfold spec_NameOk.f
  simp only [spec_in_eq, Option.bind_some]
  refine Evx.bind (spec_text_x ht) fun r1 e1 => ?_
  unfold NameR
  rw [← e1]
  refine Evx.ite (fun h => ?_) (fun h => ?_)
  · rw [h]
    by_cases c : 1 ≤ tm ∧ tm ≤ 50
    · rw [decide_eq_true c]
      refine Evx.step (fun k => by rw [spec_NameOk.j0]) (Evx.neg (by simp) ?_)
      refine Evx.ite (fun h1 => ?_) (fun h1 => Evx.ite (fun h2 => ?_) (fun h2 => Evx.ite (fun h3 => ?_) (fun h3 => ?_)))
      · simp only [spec_in_eq, Option.bind_some]
        refine Evx.ite (fun q => Evx.now ?_) (fun q => Evx.now ?_)
        · rw [if_neg (by omega), if_pos h1, q]; simp
        · have q : decide (0 ≤ a ∧ a ≤ 65535) = false := by simpa using q
          rw [if_neg (by omega), if_pos h1, q]; simp
      · refine Evx.ite (fun q => ?_) (fun q => Evx.now ?_)
        · refine Evx.bind (spec_text_x hal) fun r2 e2 => Evx.now ?_
          rw [if_neg (by omega), if_neg (by omega), if_pos h2, decide_eq_true q, e2]; simp
        · rw [if_neg (by omega), if_neg (by omega), if_pos h2, decide_eq_false q]; simp
      · refine Evx.ite (fun q => Evx.now ?_) (fun q => Evx.now ?_)
        · rw [if_pos h3, decide_eq_true q]; simp
        · rw [if_pos h3, decide_eq_false q]; simp
      · refine Evx.now ?_
        rw [if_neg h3, if_neg h1, if_neg h2]; simp
    · rw [decide_eq_false c]
      exact Evx.step (fun k => by rw [spec_NameOk.j0]) (Evx.pos (by simp) (Evx.now (by simp)))
  · have h : r1 = false := by simpa using h
    rw [h]
    exact Evx.step (fun k => by rw [spec_NameOk.j0]) (Evx.pos (by simp) (Evx.now (by simp)))
theorem impl_name_x {t al : ByteArray} (k a tm : Int) (ht : (t.size : Int) ≤ 1000000000) (hal : (al.size : Int) ≤ 1000000000) : Evx (fun n => impl_NameOk.f n t k a al tm) (fun r => r = NameR t k a al tm) := by
  unfold impl_NameOk.f
  simp only [impl_in_eq, Option.bind_some]
  refine Evx.bind (impl_text_x ht) fun r1 e1 => ?_
  unfold NameR
  rw [← e1]
  refine Evx.ite (fun h => ?_) (fun h => ?_)
  · rw [h]
    by_cases c : 1 ≤ tm ∧ tm ≤ 50
    · rw [decide_eq_true c]
      refine Evx.step (fun k => by rw [impl_NameOk.j0]) (Evx.neg (by simp) ?_)
      refine Evx.ite (fun h3 => ?_) (fun h3 => Evx.ite (fun h1 => ?_) (fun h1 => Evx.ite (fun h2 => ?_) (fun h2 => ?_)))
      · refine Evx.ite (fun q => Evx.now ?_) (fun q => Evx.now ?_)
        · rw [if_pos h3, decide_eq_true q]; simp
        · rw [if_pos h3, decide_eq_false q]; simp
      · have hw : impl_word.f a = some (decide (0 ≤ a ∧ a ≤ 65535)) := by unfold impl_word.f; rw [impl_in_eq]; rfl
        rw [hw]; simp only [Option.bind_some]
        refine Evx.ite (fun q => Evx.now ?_) (fun q => Evx.now ?_)
        · rw [if_neg (by omega), if_pos h1, q]; simp
        · have q : decide (0 ≤ a ∧ a ≤ 65535) = false := by simpa using q
          rw [if_neg (by omega), if_pos h1, q]; simp
      · refine Evx.ite (fun q => ?_) (fun q => Evx.now ?_)
        · refine Evx.bind (impl_text_x hal) fun r2 e2 => Evx.now ?_
          rw [if_neg (by omega), if_neg (by omega), if_pos h2, decide_eq_true q, e2]; simp
        · rw [if_neg (by omega), if_neg (by omega), if_pos h2, decide_eq_false q]; simp
      · refine Evx.now ?_
        rw [if_neg h3, if_neg h1, if_neg h2]; simp
    · rw [decide_eq_false c]
      exact Evx.step (fun k => by rw [impl_NameOk.j0]) (Evx.pos (by simp) (Evx.now (by simp)))
  · have h : r1 = false := by simpa using h
    rw [h]
    exact Evx.step (fun k => by rw [impl_NameOk.j0]) (Evx.pos (by simp) (Evx.now (by simp)))

/-- The sizes of a name. -/
def Szd (x : S26) : Prop := (x.f0.size : Int) ≤ 1000000000 ∧ (x.f3.size : Int) ≤ 1000000000
/-- The name at a place. -/
def NmR (x : S26) : Bool := NameR x.f0 x.f1 x.f2 x.f3 x.f4

theorem szdk_rd {l : List S83} (h : ∀ x ∈ l, Szd x.f0) {i : Int} (i0 : 0 ≤ i) (i1 : i < l.length) : Szd (rd_T83 l i).f0 := by
  unfold rd_T83
  try unfold rdOf
  rw [List.getD_eq_getElem?_getD, List.getElem?_eq_getElem (show i.toNat < l.length by omega)]
  exact h _ (List.getElem_mem _)
theorem rdK_take {l : List S83} {i : Int} {k : Nat} (i0 : 0 ≤ i) (i1 : i < k) : rd_T83 (l.take k) i = rd_T83 l i := by
  unfold rd_T83
  try unfold rdOf
  rw [List.getD_eq_getElem?_getD, List.getD_eq_getElem?_getD, List.getElem?_take, if_pos (by omega)]
/-- The first place of a text among what is kept, from a place on; -1 where it is not. -/
def AtF (l : List S83) (s : ByteArray) : Nat → Int → Int
  | 0, _ => -1
  | d + 1, i => if (rd_T83 l i).f0.f0.toList = s.toList then i else AtF l s d (i + 1)
theorem AtF_take {l : List S83} {s : ByteArray} {k : Nat} (d : Nat) : ∀ i : Int, 0 ≤ i → i + d ≤ k → AtF (l.take k) s d i = AtF l s d i := by
  induction d with
  | zero => intro i _ _; rfl
  | succ d ih =>
    intro i i0 h
    unfold AtF
    rw [rdK_take i0 (by omega), ih (i + 1) (by omega) (by omega)]
/-- What is kept, from a place on. -/
def KeptF (l : List S83) : Nat → Int → Bool
  | 0, _ => decide ((l.length : Int) ≤ 5)
  | d + 1, i => if NmR (rd_T83 l i).f0 = true then (if 0 ≤ (rd_T83 l i).f1 ∧ (rd_T83 l i).f1 ≤ 1000000 then (if AtF l (rd_T83 l i).f0.f0 i.toNat 0 ≥ 0 then false else KeptF l d (i + 1)) else false) else false
/-- Whether what is kept is ok. -/
def KeptR (l : List S83) : Bool := KeptF l l.length 0

theorem spec_kept_l1 {l : List S83} {i : Int} {P : Bool → Prop} (i0 : 0 ≤ i) (i1 : i < l.length) (hl : (l.length : Int) ≤ 100000000) (d : Nat) : ∀ j : Int, 0 ≤ j → i - j = d → (AtF l (rd_T83 l i).f0.f0 d j ≥ 0 → P false) → (¬ AtF l (rd_T83 l i).f0.f0 d j ≥ 0 → Evx (fun k => spec_KeptOk.l0 k l (i + 1)) P) → Evx (fun k => spec_KeptOk.l1 k l i j) P := by
  induction d with
  | zero =>
    intro j j0 hd h1 h2
    have e : wrap64 (i + 1) = i + 1 := by unfold wrap64; omega
    refine Evx.step (fun k => by rw [spec_KeptOk.l1]) (Evx.neg (by omega) ?_)
    rw [e]
    exact h2 (by unfold AtF; omega)
  | succ d ih =>
    intro j j0 hd h1 h2
    have e : wrap64 (j + 1) = j + 1 := by unfold wrap64; omega
    unfold AtF at h1 h2
    refine Evx.step (fun k => by rw [spec_KeptOk.l1]) (Evx.pos (by omega) (Evx.pos j0 (Evx.pos (by omega) (Evx.pos i0 (Evx.pos i1 ?_)))))
    rw [e]
    refine Evx.ite (fun h => ?_) (fun h => ?_)
    · rw [if_pos h] at h1; exact Evx.now (h1 (by omega))
    · rw [if_neg h] at h1 h2; exact ih (j + 1) (by omega) (by omega) h1 h2
theorem spec_kept_l {l : List S83} (hl : (l.length : Int) ≤ 100000000) (hs : ∀ x ∈ l, Szd x.f0) (d : Nat) : ∀ i : Int, 0 ≤ i → i ≤ l.length → l.length - i = d → Evx (fun k => spec_KeptOk.l0 k l i) (fun r => r = KeptF l d i) := by
  induction d with
  | zero =>
    intro i i0 i1 hd
    refine Evx.step (fun k => by rw [spec_KeptOk.l0]) ?_
    exact Evx.neg (by omega) (Evx.now rfl)
  | succ d ih =>
    intro i i0 i1 hd
    have hz := szdk_rd hs i0 (by omega : i < l.length)
    refine Evx.step (fun k => by rw [spec_KeptOk.l0]) (Evx.pos (by omega) (Evx.pos i0 ?_))
    refine Evx.bind (spec_name_x _ _ _ hz.1 hz.2) fun r1 hr => ?_
    unfold KeptF NmR
    rw [← hr]
    refine Evx.ite (fun h => ?_) (fun h => ?_)
    · rw [if_pos h]
      simp only [spec_in_eq, Option.bind_some]
      refine Evx.step (fun k => by rw [spec_KeptOk.j1]) ?_
      by_cases c : 0 ≤ (rd_T83 l i).f1 ∧ (rd_T83 l i).f1 ≤ 1000000
      · rw [if_pos c]
        refine Evx.neg (by simp [c]) ?_
        refine spec_kept_l1 i0 (by omega) hl i.toNat 0 (by omega) (by omega) (fun q => ?_) (fun q => ?_)
        · rw [if_pos q]
        · rw [if_neg q]; exact ih (i + 1) (by omega) (by omega) (by omega)
      · rw [if_neg c]
        exact Evx.pos (by simp; omega) (Evx.now rfl)
    · rw [if_neg h]
      exact Evx.step (fun k => by rw [spec_KeptOk.j1]) (Evx.pos rfl (Evx.now rfl))
theorem spec_kept_x {l : List S83} (hl : (l.length : Int) ≤ 100000000) (hs : ∀ x ∈ l, Szd x.f0) : Evx (fun k => spec_KeptOk.f k l) (fun r => r = KeptR l) := by
  unfold spec_KeptOk.f KeptR
  exact spec_kept_l hl hs l.length 0 (by omega) (by omega) (by omega)

theorem impl_at_l {l : List S83} (hl : (l.length : Int) ≤ 100000000) (s : ByteArray) (d : Nat) : ∀ i : Int, 0 ≤ i → i ≤ l.length → l.length - i = d → Evx (fun k => impl_keptAt.l0 k l s i) (fun r => r = AtF l s d i) := by
  induction d with
  | zero =>
    intro i i0 i1 hd
    refine Evx.step (fun k => by rw [impl_keptAt.l0]) ?_
    exact Evx.neg (by omega) (Evx.now rfl)
  | succ d ih =>
    intro i i0 i1 hd
    have e : wrap64 (i + 1) = i + 1 := by unfold wrap64; omega
    refine Evx.step (fun k => by rw [impl_keptAt.l0]) (Evx.pos (by omega) (Evx.pos i0 ?_))
    rw [e]
    unfold AtF
    refine Evx.ite (fun h => ?_) (fun h => ?_)
    · rw [if_pos h]; exact Evx.now rfl
    · rw [if_neg h]; exact ih _ (by omega) (by omega) (by omega)
theorem impl_at_x {l : List S83} (hl : (l.length : Int) ≤ 100000000) (s : ByteArray) : Evx (fun k => impl_keptAt.f k l s) (fun r => r = AtF l s l.length 0) := by
  unfold impl_keptAt.f
  exact impl_at_l hl s l.length 0 (by omega) (by omega) (by omega)
theorem impl_kept_l {l : List S83} (hl : (l.length : Int) ≤ 100000000) (hs : ∀ x ∈ l, Szd x.f0) (d : Nat) : ∀ i : Int, 0 ≤ i → i ≤ l.length → l.length - i = d → Evx (fun k => impl_KeptOk.l0 k l l (l.length : Int) i) (fun r => r = KeptF l d i) := by
  induction d with
  | zero =>
    intro i i0 i1 hd
    refine Evx.step (fun k => by rw [impl_KeptOk.l0]) ?_
    exact Evx.neg (by omega) (Evx.now rfl)
  | succ d ih =>
    intro i i0 i1 hd
    have e : wrap64 (i + 1) = i + 1 := by unfold wrap64; omega
    have hz := szdk_rd hs i0 (by omega : i < l.length)
    have ht : ((l.take i.toNat).length : Int) = i := by rw [List.length_take]; omega
    refine Evx.step (fun k => by rw [impl_KeptOk.l0]) (Evx.pos (by omega) (Evx.pos i0 (Evx.pos (by omega) ?_)))
    refine Evx.bind (impl_name_x _ _ _ hz.1 hz.2) fun r1 hr => ?_
    unfold KeptF NmR
    rw [← hr]
    refine Evx.ite (fun h => ?_) (fun h => ?_)
    · rw [if_pos h]
      simp only [impl_in_eq, Option.bind_some]
      refine Evx.ite (fun c => ?_) (fun c => ?_)
      · have c' : 0 ≤ (rd_T83 l i).f1 ∧ (rd_T83 l i).f1 ≤ 1000000 := by simpa using c
        rw [if_pos c']
        refine Evx.pos (by omega) (Evx.bind (impl_at_x (by omega) _) fun r2 e2 => ?_)
        have e3 : (l.take i.toNat).length = i.toNat := by omega
        rw [e3, AtF_take i.toNat 0 (by omega) (by omega)] at e2
        rw [← e2, e]
        refine Evx.ite (fun q => ?_) (fun q => ?_)
        · rw [if_pos q]; exact Evx.now rfl
        · rw [if_neg q]; exact ih (i + 1) (by omega) (by omega) (by omega)
      · have c' : ¬ (0 ≤ (rd_T83 l i).f1 ∧ (rd_T83 l i).f1 ≤ 1000000) := by simpa using c
        rw [if_neg c']; exact Evx.now rfl
    · rw [if_neg h]; exact Evx.now rfl
theorem impl_kept_x {l : List S83} (hl : (l.length : Int) ≤ 100000000) (hs : ∀ x ∈ l, Szd x.f0) : Evx (fun k => impl_KeptOk.f k l) (fun r => r = KeptR l) := by
  unfold impl_KeptOk.f KeptR
  exact impl_kept_l hl hs l.length 0 (by omega) (by omega) (by omega)

/-- What is kept of the law's own kind, as of the program's. -/
def cvk (x : S81) : S83 := ⟨⟨x.f0.f0, x.f0.f1, x.f0.f2, x.f0.f3, x.f0.f4⟩, x.f1⟩
theorem rd83_set {l : List S83} {i j : Int} {v : S83} (i0 : 0 ≤ i) (i1 : i < l.length) (j0 : 0 ≤ j) : rd_T83 (l.set i.toNat v) j = if i = j then v else rd_T83 l j := by
  have hi : i.toNat < l.length := by omega
  unfold rd_T83
  rw [List.getD_eq_getElem?_getD, List.getD_eq_getElem?_getD, List.getElem?_set]
  by_cases h : i = j
  · subst h; rw [if_pos rfl, if_pos hi, if_pos rfl]; rfl
  · rw [if_neg (by omega), if_neg h]
theorem tok_l {l : List S81} (hl : (l.length : Int) ≤ 100000000) (d : Nat) : ∀ (x : List S83) (i : Int), x.length = l.length → 0 ≤ i → i ≤ l.length → l.length - i = d → (∀ j : Int, 0 ≤ j → j < i → rd_T83 x j = cvk (rd_T81 l j)) →
    Evx (fun k => laws_toKeptS.l0 k l x i) (fun r => r.length = l.length ∧ ∀ j : Int, 0 ≤ j → j < l.length → rd_T83 r j = cvk (rd_T81 l j)) := by
  induction d with
  | zero =>
    intro x i hx i0 hi hd H
    refine Evx.step (fun k => by rw [laws_toKeptS.l0]) ?_
    exact Evx.neg (by omega) (Evx.now ⟨hx, fun j j0 j1 => H j j0 (by omega)⟩)
  | succ d ih =>
    intro x i hx i0 hi hd H
    have e1 : wrap64 (i + 1) = i + 1 := by unfold wrap64; omega
    refine Evx.step (fun k => by rw [laws_toKeptS.l0]) (Evx.pos (by omega) (Evx.pos i0 ?_))
    unfold laws_toKept.f laws_toName.f
    simp only [Option.bind_some]
    rw [e1]
    refine Evx.pos (by omega) (ih _ _ (by simp [hx]) (by omega) (by omega) (by omega) fun j j0 j1 => ?_)
    rw [rd83_set i0 (by omega) j0]
    by_cases h : i = j
    · rw [if_pos h, ← h]; rfl
    · rw [if_neg h]; exact H j j0 (by omega)
theorem tok_x {l : List S81} (hl : (l.length : Int) ≤ 100000000) : Evx (fun k => laws_toKeptS.f k l) (fun r => r = l.map cvk) := by
  unfold laws_toKeptS.f
  refine Evx.pos (by omega) (Evx.pos (by omega) ?_)
  refine (tok_l hl l.length _ 0 (by simp) (by omega) (by omega) (by omega) (fun j j0 j1 => by omega)).mono fun r hr => ?_
  apply List.ext_getElem?
  intro j
  rcases Nat.lt_or_ge j l.length with q | q
  · have h := hr.2 (j : Int) (by omega) (by omega)
    unfold rd_T83 rd_T81 at h
    rw [Int.toNat_natCast, List.getD_eq_getElem?_getD, List.getD_eq_getElem?_getD, List.getElem?_eq_getElem (show j < r.length by omega), List.getElem?_eq_getElem q] at h
    rw [List.getElem?_eq_getElem (show j < r.length by omega), List.getElem?_map, List.getElem?_eq_getElem q]
    exact congrArg some h
  · rw [List.getElem?_eq_none (by omega), List.getElem?_eq_none (by simpa using q)]
theorem eqk_l {l : List S83} (hl : (l.length : Int) ≤ 100000000) (d : Nat) : ∀ i : Int, 0 ≤ i → i ≤ l.length → l.length - i = d →
    Evx (fun k => laws_eqKeptS.l0 k l l i) (fun r => r = true) := by
  induction d with
  | zero =>
    intro i i0 hi hd
    refine Evx.step (fun k => by rw [laws_eqKeptS.l0]) ?_
    exact Evx.neg (by omega) (Evx.now rfl)
  | succ d ih =>
    intro i i0 hi hd
    have e : wrap64 (i + 1) = i + 1 := by unfold wrap64; omega
    refine Evx.step (fun k => by rw [laws_eqKeptS.l0]) (Evx.pos (by omega) (Evx.pos i0 (Evx.pos (by omega) ?_)))
    have he : ∀ x : S83, laws_eqKept.f x.f0.f0 x.f0.f1 x.f0.f2 x.f0.f3 x.f0.f4 x.f1 x.f0.f0 x.f0.f1 x.f0.f2 x.f0.f3 x.f0.f4 x.f1 = some true := by intro x; unfold laws_eqKept.f laws_eqName.f; simp
    rw [he, e]
    simp only [Option.bind_some]
    exact Evx.pos trivial (ih _ (by omega) (by omega) (by omega))
theorem eqk_x {l : List S83} (hl : (l.length : Int) ≤ 100000000) : Evx (fun k => laws_eqKeptS.f k l l) (fun r => r = true) := by
  unfold laws_eqKeptS.f
  exact Evx.pos rfl (eqk_l hl l.length 0 (by omega) (by omega) (by omega))
theorem szk_l {l : List S81} (hl : (l.length : Int) ≤ 100000000) (hw : ∀ x ∈ l, x.f0.f0.size ≤ maxLen ∧ x.f0.f3.size ≤ maxLen) (d : Nat) : ∀ (i a : Int), 0 ≤ i → i ≤ l.length → l.length - i = d → 0 ≤ a → a ≤ 1048576 →
    Evx (fun k => laws_szKeptS.l0 k l a i) (fun r => r < 0 ∨ (0 ≤ r ∧ r ≤ a ∧ ∀ j : Int, i ≤ j → j < l.length → Szd (cvk (rd_T81 l j)).f0)) := by
  induction d with
  | zero =>
    intro i a i0 hi hd a0 a1
    refine Evx.step (fun k => by rw [laws_szKeptS.l0]) ?_
    exact Evx.neg (by omega) (Evx.now (.inr ⟨a0, by omega, fun j h1 h2 => by omega⟩))
  | succ d ih =>
    intro i a i0 hi hd a0 a1
    have e : wrap64 (i + 1) = i + 1 := by unfold wrap64; omega
    have hm : rd_T81 l i ∈ l := by
      unfold rd_T81
      rw [List.getD_eq_getElem?_getD, List.getElem?_eq_getElem (show i.toNat < l.length by omega)]
      exact List.getElem_mem _
    obtain ⟨w0, w3⟩ := hw _ hm
    unfold maxLen at w0 w3
    refine Evx.step (fun k => by rw [laws_szKeptS.l0]) (Evx.pos (by omega) (Evx.pos i0 ?_))
    unfold laws_szKept.f laws_szName.f
    rw [e]
    generalize hx : rd_T81 l i = x at hm w0 w3 ⊢
    by_cases c1 : wrap64 (a - (x.f0.f0.size : Int)) < 0
    · rw [if_pos c1]; simp only [Option.bind_some]; rw [if_pos (by omega)]; simp only [Option.bind_some]; exact Evx.pos (by omega) (Evx.now (.inl (by omega)))
    · rw [if_neg c1]
      have e1 : wrap64 (a - (x.f0.f0.size : Int)) = a - x.f0.f0.size := by unfold wrap64; omega
      rw [e1] at c1 ⊢
      by_cases c2 : wrap64 (a - (x.f0.f0.size : Int) - (x.f0.f3.size : Int)) < 0
      · rw [if_pos c2]; simp only [Option.bind_some]; rw [if_pos (by omega)]; simp only [Option.bind_some]; exact Evx.pos (by omega) (Evx.now (.inl (by omega)))
      · rw [if_neg c2]
        have e2 : wrap64 (a - (x.f0.f0.size : Int) - (x.f0.f3.size : Int)) = a - x.f0.f0.size - x.f0.f3.size := by unfold wrap64; omega
        rw [e2] at c2 ⊢
        simp only [Option.bind_some]
        rw [if_neg c2]
        simp only [Option.bind_some]
        refine Evx.neg (by omega) ((ih (i + 1) _ (by omega) (by omega) (by omega) (by omega) (by omega)).mono fun r hr => ?_)
        rcases hr with hr | ⟨r0, r1, hr⟩
        · exact .inl hr
        · refine .inr ⟨r0, by omega, fun j h1 h2 => ?_⟩
          by_cases q : j = i
          · rw [q, hx]; exact ⟨by show (x.f0.f0.size : Int) ≤ _; omega, by show (x.f0.f3.size : Int) ≤ _; omega⟩
          · exact hr j (by omega) h2
theorem szk_x {l : List S81} (hm : l.length ≤ 9223372036854775807) (hw : ∀ x ∈ l, x.f0.f0.size ≤ maxLen ∧ x.f0.f3.size ≤ maxLen) {a : Int} (a0 : 0 ≤ a) (a1 : a ≤ 1048576) : Evx (fun f => laws_szKeptS.f f l a) (fun r => r < 0 ∨ ((0 ≤ r ∧ r ≤ a) ∧ (l.length : Int) ≤ 1048576 ∧ ∀ x ∈ l.map cvk, Szd x.f0)) := by
  unfold laws_szKeptS.f
  refine Evx.ite (fun c => Evx.now (.inl (by omega))) (fun c => ?_)
  have e : wrap64 (a - (l.length : Int)) = a - l.length := by unfold wrap64; omega
  rw [e] at c ⊢
  refine (szk_l (by omega) hw l.length 0 _ (by omega) (by omega) (by omega) (by omega) (by omega)).mono fun r hr => hr.elim .inl (fun q => .inr ⟨⟨q.1, by omega⟩, by omega, ?_⟩)
  intro x hx
  obtain ⟨y, hy, rfl⟩ := List.mem_map.1 hx
  obtain ⟨j, hj, he⟩ := List.mem_iff_getElem.1 hy
  have := q.2.2 (j : Int) (by omega) (by omega)
  unfold rd_T81 at this
  rw [Int.toNat_natCast, List.getD_eq_getElem?_getD, List.getElem?_eq_getElem hj] at this
  rw [← he]; exact this

theorem FnExactKeptOk : Go.Proofs.Ytmgnmgobibpjjaa.ShpFnExactKeptOk.Pure := by
  intro l hW
  refine Evx.law (g := fun f => laws_FnExactKeptOk.f f l) ?_
  have hm : l.length ≤ maxLen := hW.1
  have hw : ∀ x ∈ l, x.f0.f0.size ≤ maxLen ∧ x.f0.f3.size ≤ maxLen := fun x hx => ⟨(hW.2 x hx).1.1, (hW.2 x hx).1.2.2.2.1⟩
  unfold maxLen at hm
  unfold laws_FnExactKeptOk.f
  refine Evx.bind (szk_x (by omega) hw (by omega) (by omega)) fun r0 h0' => ?_
  refine Evx.ite (fun _ => Evx.now rfl) (fun c0 => ?_)
  obtain ⟨_, hl, hs⟩ := h0'.resolve_left c0
  have hl1 : (l.length : Int) ≤ 100000000 := by omega
  have hl' : ((l.map cvk).length : Int) ≤ 100000000 := by rw [List.length_map]; exact hl1
  refine Evx.bind (tok_x hl1) fun r1 e1 => ?_
  subst e1
  refine Evx.bind (spec_kept_x hl' hs) fun r2 e2 => ?_
  refine Evx.bind (tok_x hl1) fun r3 e3 => ?_
  subst e3
  refine Evx.bind (impl_kept_x hl' hs) fun r4 e4 => ?_
  rw [← e2] at e4
  subst e4
  refine Evx.neg (by simp) ?_
  refine Evx.bind (tok_x hl1) fun r5 e5 => ?_
  subst e5
  refine Evx.bind (eqk_x hl') fun r6 e6 => ?_
  exact Evx.pos e6 (Evx.now rfl)

end Go.Proofs.Ytmgnmgobibpjjaa.Pure
