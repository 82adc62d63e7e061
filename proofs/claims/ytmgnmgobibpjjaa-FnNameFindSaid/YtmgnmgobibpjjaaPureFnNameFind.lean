/- The plain statement of FnNameFind: for all arguments, the law's function comes to true; there is no condition beyond those it names. -/
import Derived.Test.YtmgnmgobibpjjaaGFnNameFindx7
set_option linter.unusedVariables false
set_option linter.unusedSimpArgs false
set_option maxRecDepth 100000
namespace Go.Proofs.Ytmgnmgobibpjjaa.Pure
open Go.RowKit Go.Proofs.Ytmgnmgobibpjjaa.GFnNameFind Go.Proofs.YtmgnmgobibpjjaaU.PrintWords Go.Proofs.YtmgnmgobibpjjaaU.PrintLast Go.Proofs.YtmgnmgobibpjjaaU.PrintMore

theorem w64 {x : Int} (h0 : -9223372036854775808 ≤ x) (h1 : x ≤ 9223372036854775807) : wrap64 x = x := by unfold wrap64; omega

/-- It comes to an answer of which P holds. -/
def Evx {α : Type} (g : Nat → Option α) (P : α → Prop) : Prop := ∃ r, Ev g r ∧ P r
theorem Evx.bind {α β : Type} {g : Nat → Option α} {f : Nat → α → Option β} {P : α → Prop} {Q : β → Prop} (h : Evx g P) (k : ∀ a, P a → Evx (fun n => f n a) Q) : Evx (fun n => (g n).bind (f n)) Q := by
  obtain ⟨a, ha, pa⟩ := h
  obtain ⟨r, hr, qr⟩ := k a pa
  exact ⟨r, Ev.bind ha hr, qr⟩
theorem Evx.now {α : Type} {P : α → Prop} {r : α} (h : P r) : Evx (fun _ => some r) P := ⟨r, Ev.now r, h⟩
theorem Evx.pos {α : Type} {c : Prop} [Decidable c] {f g : Nat → Option α} {P : α → Prop} (hc : c) (h : Evx f P) : Evx (fun n => if c then f n else g n) P := by
  simp only [if_pos hc]; exact h
theorem Evx.neg {α : Type} {c : Prop} [Decidable c] {f g : Nat → Option α} {P : α → Prop} (hc : ¬ c) (h : Evx g P) : Evx (fun n => if c then f n else g n) P := by
  simp only [if_neg hc]; exact h
theorem Evx.ite {α : Type} {c : Prop} [Decidable c] {f g : Nat → Option α} {P : α → Prop} (h : c → Evx f P) (k : ¬ c → Evx g P) : Evx (fun n => if c then f n else g n) P := by
  by_cases hc : c
  · exact Evx.pos hc (h hc)
  · exact Evx.neg hc (k hc)
theorem Evx.step {α : Type} {g f : Nat → Option α} {P : α → Prop} (h : ∀ k, g (k + 1) = f k) (k : Evx f P) : Evx g P := by
  obtain ⟨r, hr, p⟩ := k
  exact ⟨r, Ev.step h hr, p⟩
theorem Evx.mono {α : Type} {g : Nat → Option α} {P Q : α → Prop} (h : Evx g P) (k : ∀ r, P r → Q r) : Evx g Q := by
  obtain ⟨r, hr, p⟩ := h
  exact ⟨r, hr, k r p⟩
theorem Evx.law {g : Nat → Option Bool} (h : Evx g (fun r => r = true)) : ∃ k, g k = some true := by
  obtain ⟨r, hr, rfl⟩ := h
  exact hr.rounds
theorem Evx.of {α : Type} {g : Nat → Option α} {r : α} {P : α → Prop} (hg : ∀ k, LeO (g k) (g (k + 1))) {k : Nat} (h : g k = some r) (p : P r) : Evx g P := ⟨r, Ev.of hg h, p⟩

/-- All are bytes. -/
def Byt (l : List Int) : Prop := ∀ x ∈ l, 0 ≤ x ∧ x ≤ 255
theorem byt_wf {l : List Int} (h : ∀ x ∈ l, (Lit.int .u8 x).wf = true) : Byt l := by
  intro x hx
  have := h x hx
  simp [Lit.wf, IntKind.min, IntKind.max, IntKind.signed, IntKind.bits] at this
  omega
theorem byt_rd {l : List Int} (h : Byt l) (i : Int) : 0 ≤ rd l i ∧ rd l i ≤ 255 := by
  unfold rd
  by_cases hi : i.toNat < l.length
  · rw [List.getD_eq_getElem?_getD, List.getElem?_eq_getElem hi]; exact h _ (List.getElem_mem hi)
  · rw [List.getD_eq_getElem?_getD, List.getElem?_eq_none (by omega)]; simp
theorem xor_nn {x y : Int} (hx : 0 ≤ x) (hx1 : x < 4611686018427387904) (hy : 0 ≤ y) (hy1 : y < 4611686018427387904) : 0 ≤ Go.bits .xor .i64 x y := by
  obtain ⟨a, rfl⟩ := Int.eq_ofNat_of_zero_le hx
  obtain ⟨b, rfl⟩ := Int.eq_ofNat_of_zero_le hy
  have ha : a < 2 ^ 62 := by omega
  have hb : b < 2 ^ 62 := by omega
  have hc := Nat.xor_lt_two_pow ha hb
  unfold Go.bits
  simp only [BitVec.ofInt_natCast, BitVec.toNat_xor, BitVec.toNat_ofNat]
  rw [IntKind.wrap_i64]
  have e : IntKind.i64.bits = 64 := rfl
  rw [e, Nat.mod_eq_of_lt (by omega), Nat.mod_eq_of_lt (by omega)]
  omega

/-- What a draw of a number below a tells. -/
def Pk (n a : Int) (r : Int × Int) : Prop := r.2 = n + 1 ∧ 0 ≤ r.1 ∧ (1 ≤ a → r.1 < a) ∧ (a < 1 → r.1 = 0)
theorem tmod_rng {x a : Int} (hx : 0 ≤ x) (ha : 1 ≤ a) : 0 ≤ Int.tmod x a ∧ Int.tmod x a < a := by
  rw [Int.tmod_eq_emod_of_nonneg hx]
  exact ⟨Int.emod_nonneg _ (by omega), Int.emod_lt_of_pos _ (by omega)⟩
theorem pick_j {s : List Int} (hs : Byt s) {n a : Int} (h0 : 0 ≤ n) (h1 : n ≤ 1000000000) (ha : 1 ≤ a) (hl : 1 ≤ (s.length : Int)) (hm : (s.length : Int) ≤ 1000000000) :
    Evx (fun k => spec_l20Rd_pick.j0 k a false s (n + 1)) (Pk n a) := by
  refine Evx.step (fun k => by rw [spec_l20Rd_pick.j0]) ?_
  have e1 : wrap64 (n + 1 - 1) = n := by unfold wrap64; omega
  have e2 : wrap64 (n * 7) = n * 7 := by unfold wrap64; omega
  have e3 : wrap64 (n * 7 + 3) = n * 7 + 3 := by unfold wrap64; omega
  have e4 : wrap64 (n * 29) = n * 29 := by unfold wrap64; omega
  simp only [e1, e2, e3, e4]
  refine Evx.neg (by simp) ?_
  refine Evx.ite (fun hlt => ?_) (fun hge => ?_)
  · refine Evx.pos h0 (Evx.neg (by omega) (Evx.now ?_))
    have hb := byt_rd hs n
    have e5 : wrap64 (rd s n) = rd s n := by unfold wrap64; omega
    rw [e5]
    have := tmod_rng hb.1 ha
    exact ⟨rfl, this.1, fun _ => this.2, fun h => by omega⟩
  · refine Evx.neg (by omega) ?_
    have r1 := tmod_rng h0 hl
    have r2 := tmod_rng (x := n * 7 + 3) (by omega) hl
    refine Evx.pos r1.1 (Evx.pos r1.2 (Evx.pos r2.1 (Evx.pos r2.2 (Evx.neg (by omega) (Evx.now ?_)))))
    have b1 := byt_rd hs (Int.tmod n s.length)
    have b2 := byt_rd hs (Int.tmod (n * 7 + 3) s.length)
    generalize rd s (Int.tmod n s.length) = x at b1 ⊢
    generalize rd s (Int.tmod (n * 7 + 3) s.length) = y at b2 ⊢
    have q0 : 0 ≤ Int.tdiv n s.length := Int.tdiv_nonneg h0 (by omega)
    have q1 : Int.tdiv n s.length ≤ n := by
      rw [Int.tdiv_eq_ediv_of_nonneg h0]; exact Int.ediv_le_self _ h0
    generalize Int.tdiv n s.length = q at q0 q1 ⊢
    have f1 : wrap64 x = x := by unfold wrap64; omega
    have f2 : wrap64 y = y := by unfold wrap64; omega
    have f3 : wrap64 (x * 131) = x * 131 := by unfold wrap64; omega
    have f4 : wrap64 (y * 1117) = y * 1117 := by unfold wrap64; omega
    have f5 : wrap64 (x * 131 + y * 1117) = x * 131 + y * 1117 := by unfold wrap64; omega
    have f6 : wrap64 (x * 131 + y * 1117 + n * 29) = x * 131 + y * 1117 + n * 29 := by unfold wrap64; omega
    have f7 : wrap64 q = q := by unfold wrap64; omega
    have f8 : wrap64 (q * 53) = q * 53 := by unfold wrap64; omega
    have f9 : wrap64 (x * 131 + y * 1117 + n * 29 + q * 53) = x * 131 + y * 1117 + n * 29 + q * 53 := by unfold wrap64; omega
    simp only [f1, f2, f3, f4, f5, f6, f7, f8, f9]
    have z0 : 0 ≤ x * 131 + y * 1117 + n * 29 + q * 53 := by omega
    have z1 : x * 131 + y * 1117 + n * 29 + q * 53 < 1000000000000 := by omega
    generalize x * 131 + y * 1117 + n * 29 + q * 53 = z at z0 z1 ⊢
    have f10 : wrap64 (Int.tdiv z 64) = z / 64 := by
      rw [Int.tdiv_eq_ediv_of_nonneg z0]; unfold wrap64; omega
    rw [f10]
    have := tmod_rng (xor_nn (x := z) (y := z / 64) z0 (by omega) (by omega) (by omega)) ha
    exact ⟨rfl, this.1, fun _ => this.2, fun h => by omega⟩
theorem pick_x {s : List Int} (hs : Byt s) (hm : (s.length : Int) ≤ 1000000000) (n a : Int) (h0 : 0 ≤ n) (h1 : n ≤ 1000000000) :
    Evx (fun k => spec_l20Rd_pick.f k s n a) (Pk n a) := by
  unfold spec_l20Rd_pick.f
  have e0 : wrap64 (n + 1) = n + 1 := by unfold wrap64; omega
  rw [e0]
  refine Evx.ite (fun ha => ?_) (fun ha => ?_)
  · refine Evx.step (fun k => by rw [spec_l20Rd_pick.j0]) (Evx.pos rfl (Evx.now ?_))
    exact ⟨rfl, Int.le_refl _, fun h => by omega, fun _ => rfl⟩
  · by_cases hl : (s.length : Int) = 0
    · have e : ((s.length : Int) == 0) = true := beq_iff_eq.mpr hl
      rw [e]
      refine Evx.step (fun k => by rw [spec_l20Rd_pick.j0]) (Evx.pos rfl (Evx.now ?_))
      exact ⟨rfl, Int.le_refl _, fun h => by omega, fun _ => rfl⟩
    · have e : ((s.length : Int) == 0) = false := beq_eq_false_iff_ne.mpr hl
      rw [e]
      exact pick_j hs h0 h1 (by omega) (by omega) hm
/-- What the reader that is opened is. -/
def Opn (r : List Int × Int) : Prop := Byt r.1 ∧ (r.1.length : Int) ≤ 2000 ∧ r.2 = 0
theorem open_x {l : List Int} (hl : Byt l) : ∃ r, spec_l20Open.f l = some r ∧ Opn r := by
  unfold spec_l20Open.f
  by_cases h : (l.length : Int) > 2000
  · rw [if_pos h, if_pos (by omega)]
    exact ⟨_, rfl, fun x hx => hl x (List.mem_of_mem_take hx), by simp only [List.length_take]; omega, rfl⟩
  · rw [if_neg h]
    exact ⟨_, rfl, hl, by simp only []; omega, rfl⟩

theorem alive_x : Evx (fun k => laws_alive.f k) (fun r => r = true) := Evx.of laws_alive.mono (k := 10) (r := true) (by decide +kernel) rfl

theorem impl_in_eq (a b c : Int) : impl_in.f a b c = some (decide (b ≤ a ∧ a ≤ c)) := by
  unfold impl_in.f
  by_cases h : b ≤ a
  · rw [if_pos h]; simp [h]
  · rw [if_neg (by omega)]; simp [h]
theorem spec_in_eq (a b c : Int) : spec_l1In.f a b c = some (decide (b ≤ a ∧ a ≤ c)) := by
  unfold spec_l1In.f
  by_cases h : b ≤ a
  · rw [if_pos h]; simp [h]
  · rw [if_neg (by omega)]; simp [h]

theorem odd_x {s : List Int} (hs : Byt s) (hm : (s.length : Int) ≤ 1000000000) (n a : Int) (h0 : 0 ≤ n) (h1 : n ≤ 1000000000) :
    Evx (fun k => spec_l20Rd_odd.f k s n a) (fun r => n ≤ r.2 ∧ r.2 ≤ n + 1) := by
  unfold spec_l20Rd_odd.f
  refine Evx.ite (fun h => ?_) (fun h => ?_)
  · refine Evx.bind (pick_x hs hm n a h0 h1) fun r hr => Evx.now ?_
    obtain ⟨e, _⟩ := hr
    simp only [e]; omega
  · exact Evx.now ⟨Int.le_refl _, by simp only []; omega⟩

theorem rd_drop {l : List Int} {i : Int} (h0 : 0 ≤ i) (h1 : i < l.length) : l.drop i.toNat = rd l i :: l.drop (i + 1).toNat := by
  have hi : i.toNat < l.length := by omega
  rw [List.drop_eq_getElem_cons hi]
  unfold rd
  rw [List.getD_eq_getElem?_getD, List.getElem?_eq_getElem hi]
  have : (i + 1).toNat = i.toNat + 1 := by omega
  rw [this]; rfl
/-- A small letter. -/
def Ltr (b : Int) : Bool := decide (97 ≤ b) && decide (b ≤ 122)
/-- A text of a name. -/
def TextR (s : ByteArray) : Bool := (bytesOf s).all Ltr && decide (1 ≤ (s.size : Int) ∧ (s.size : Int) ≤ 12)
theorem all_cons {b : Int} {l : List Int} : (b :: l).all Ltr = (Ltr b && l.all Ltr) := rfl
theorem spec_text_l {s : ByteArray} (hm : (s.size : Int) ≤ 1000000000) (d : Nat) : ∀ i : Int, 0 ≤ i → i ≤ s.size → s.size - i = d →
    Evx (fun k => spec_l19Word.l0 k s i) (fun r => r = (((bytesOf s).drop i.toNat).all Ltr && decide (1 ≤ (s.size : Int) ∧ (s.size : Int) ≤ 12))) := by
  have hl := bytesOf_length s
  induction d with
  | zero =>
    intro i i0 i1 hd
    refine Evx.step (fun k => by rw [spec_l19Word.l0]) (Evx.neg (by omega) ?_)
    simp only [spec_in_eq, Option.bind_some]
    refine Evx.now ?_
    rw [List.drop_of_length_le (by omega)]; rfl
  | succ d ih =>
    intro i i0 i1 hd
    have e : wrap64 (i + 1) = i + 1 := by unfold wrap64; omega
    refine Evx.step (fun k => by rw [spec_l19Word.l0]) (Evx.pos (by omega) (Evx.pos i0 ?_))
    rw [e, ← rd_bytesOf, rd_drop i0 (by omega), all_cons]
    refine Evx.ite (fun h => Evx.now ?_) (fun h => Evx.ite (fun h2 => Evx.now ?_) (fun h2 => ?_))
    · unfold Ltr; rw [decide_eq_false (show ¬ 97 ≤ rd (bytesOf s) i by omega)]; simp
    · unfold Ltr; rw [decide_eq_false (show ¬ rd (bytesOf s) i ≤ 122 by omega)]; simp
    · have hL : Ltr (rd (bytesOf s) i) = true := by unfold Ltr; simp; omega
      rw [hL, Bool.true_and]
      exact ih _ (by omega) (by omega) (by omega)
theorem spec_text_x {s : ByteArray} (hm : (s.size : Int) ≤ 1000000000) : Evx (fun k => spec_l19Word.f k s) (fun r => r = TextR s) := by
  unfold spec_l19Word.f
  exact spec_text_l hm s.size 0 (by omega) (by omega) (by omega)
theorem impl_text_l {s : ByteArray} (hm : (s.size : Int) ≤ 1000000000) (d : Nat) : ∀ i : Int, 0 ≤ i → i ≤ s.size → s.size - i = d →
    Evx (fun k => impl_textOk.l0 k s (bytesOf s) (s.size : Int) i) (fun r => r = (((bytesOf s).drop i.toNat).all Ltr && decide (1 ≤ (s.size : Int) ∧ (s.size : Int) ≤ 12))) := by
  have hl := bytesOf_length s
  induction d with
  | zero =>
    intro i i0 i1 hd
    refine Evx.step (fun k => by rw [impl_textOk.l0]) (Evx.neg (by omega) ?_)
    simp only [impl_in_eq, Option.bind_some]
    refine Evx.now ?_
    rw [List.drop_of_length_le (by omega)]; rfl
  | succ d ih =>
    intro i i0 i1 hd
    have e : wrap64 (i + 1) = i + 1 := by unfold wrap64; omega
    refine Evx.step (fun k => by rw [impl_textOk.l0]) (Evx.pos (by omega) (Evx.pos i0 (Evx.pos (by omega) ?_)))
    rw [e, rd_drop i0 (by omega), all_cons]
    refine Evx.ite (fun h => Evx.now ?_) (fun h => Evx.ite (fun h2 => Evx.now ?_) (fun h2 => ?_))
    · unfold Ltr; rw [decide_eq_false (show ¬ 97 ≤ rd (bytesOf s) i by omega)]; simp
    · unfold Ltr; rw [decide_eq_false (show ¬ rd (bytesOf s) i ≤ 122 by omega)]; simp
    · have hL : Ltr (rd (bytesOf s) i) = true := by unfold Ltr; simp; omega
      rw [hL, Bool.true_and]
      exact ih _ (by omega) (by omega) (by omega)
theorem impl_text_x {s : ByteArray} (hm : (s.size : Int) ≤ 1000000000) : Evx (fun k => impl_textOk.f k s) (fun r => r = TextR s) := by
  unfold impl_textOk.f
  simp only [Option.bind_some, List.nil_append]
  rw [bytesOf_length]
  exact Evx.pos (by simp; omega) (impl_text_l hm s.size 0 (by omega) (by omega) (by omega))
/-- A name. -/
def NameR (t : ByteArray) (k a : Int) (al : ByteArray) (tm : Int) : Bool :=
  TextR t && decide (1 ≤ tm ∧ tm ≤ 50) && (if k = 0 then decide (a = 0) && (al.toList == ([] : List UInt8)) else if k = 1 then decide (0 ≤ a ∧ a ≤ 65535) && (al.toList == ([] : List UInt8)) else if k = 2 then decide (a = 0) && TextR al else false)
theorem spec_name_x {t al : ByteArray} (k a tm : Int) (ht : (t.size : Int) ≤ 1000000000) (hal : (al.size : Int) ≤ 1000000000) : Evx (fun n => spec_NameOk.f n t k a al tm) (fun r => r = NameR t k a al tm) := by
  unfold spec_NameOk.f
  simp only [spec_in_eq, Option.bind_some]
  refine Evx.bind (spec_text_x ht) fun r1 e1 => ?_
  unfold NameR
  rw [← e1]
  refine Evx.ite (fun h => ?_) (fun h => ?_)
  · rw [h]
    by_cases c : 1 ≤ tm ∧ tm ≤ 50
    · rw [decide_eq_true c]
      refine Evx.step (fun k => by rw [spec_NameOk.j0]) (Evx.neg (by simp) ?_)
      refine Evx.ite (fun h1 => ?_) (fun h1 => Evx.ite (fun h2 => ?_) (fun h2 => Evx.ite (fun h3 => ?_) (fun h3 => ?_)))
      · simp only [spec_in_eq, Option.bind_some]
        refine Evx.ite (fun q => Evx.now ?_) (fun q => Evx.now ?_)
        · rw [if_neg (by omega), if_pos h1, q]; simp
        · have q : decide (0 ≤ a ∧ a ≤ 65535) = false := by simpa using q
          rw [if_neg (by omega), if_pos h1, q]; simp
      · refine Evx.ite (fun q => ?_) (fun q => Evx.now ?_)
        · refine Evx.bind (spec_text_x hal) fun r2 e2 => Evx.now ?_
          rw [if_neg (by omega), if_neg (by omega), if_pos h2, decide_eq_true q, e2]; simp
        · rw [if_neg (by omega), if_neg (by omega), if_pos h2, decide_eq_false q]; simp
      · refine Evx.ite (fun q => Evx.now ?_) (fun q => Evx.now ?_)
        · rw [if_pos h3, decide_eq_true q]; simp
        · rw [if_pos h3, decide_eq_false q]; simp
      · refine Evx.now ?_
        rw [if_neg h3, if_neg h1, if_neg h2]; simp
    · rw [decide_eq_false c]
      exact Evx.step (fun k => by rw [spec_NameOk.j0]) (Evx.pos (by simp) (Evx.now (by simp)))
  · have h : r1 = false := by simpa using h
    rw [h]
    exact Evx.step (fun k => by rw [spec_NameOk.j0]) (Evx.pos (by simp) (Evx.now (by simp)))
theorem impl_name_x {t al : ByteArray} (k a tm : Int) (ht : (t.size : Int) ≤ 1000000000) (hal : (al.size : Int) ≤ 1000000000) : Evx (fun n => impl_NameOk.f n t k a al tm) (fun r => r = NameR t k a al tm) := by
  unfold impl_NameOk.f
  simp only [impl_in_eq, Option.bind_some]
  refine Evx.bind (impl_text_x ht) fun r1 e1 => ?_
  unfold NameR
  rw [← e1]
  refine Evx.ite (fun h => ?_) (fun h => ?_)
  · rw [h]
    by_cases c : 1 ≤ tm ∧ tm ≤ 50
    · rw [decide_eq_true c]
      refine Evx.step (fun k => by rw [impl_NameOk.j0]) (Evx.neg (by simp) ?_)
      refine Evx.ite (fun h3 => ?_) (fun h3 => Evx.ite (fun h1 => ?_) (fun h1 => Evx.ite (fun h2 => ?_) (fun h2 => ?_)))
      · refine Evx.ite (fun q => Evx.now ?_) (fun q => Evx.now ?_)
        · rw [if_pos h3, decide_eq_true q]; simp
        · rw [if_pos h3, decide_eq_false q]; simp
      · have hw : impl_word.f a = some (decide (0 ≤ a ∧ a ≤ 65535)) := by unfold impl_word.f; rw [impl_in_eq]; rfl
        rw [hw]; simp only [Option.bind_some]
        refine Evx.ite (fun q => Evx.now ?_) (fun q => Evx.now ?_)
        · rw [if_neg (by omega), if_pos h1, q]; simp
        · have q : decide (0 ≤ a ∧ a ≤ 65535) = false := by simpa using q
          rw [if_neg (by omega), if_pos h1, q]; simp
      · refine Evx.ite (fun q => ?_) (fun q => Evx.now ?_)
        · refine Evx.bind (impl_text_x hal) fun r2 e2 => Evx.now ?_
          rw [if_neg (by omega), if_neg (by omega), if_pos h2, decide_eq_true q, e2]; simp
        · rw [if_neg (by omega), if_neg (by omega), if_pos h2, decide_eq_false q]; simp
      · refine Evx.now ?_
        rw [if_neg h3, if_neg h1, if_neg h2]; simp
    · rw [decide_eq_false c]
      exact Evx.step (fun k => by rw [impl_NameOk.j0]) (Evx.pos (by simp) (Evx.now (by simp)))
  · have h : r1 = false := by simpa using h
    rw [h]
    exact Evx.step (fun k => by rw [impl_NameOk.j0]) (Evx.pos (by simp) (Evx.now (by simp)))

theorem rdOf_size {y : List ByteArray} (h : ∀ x ∈ y, x.size ≤ 13) (i : Int) : (rdOf ByteArray.empty y i).size ≤ 13 := by
  unfold rdOf
  rw [List.getD_eq_getElem?_getD]
  rcases Nat.lt_or_ge i.toNat y.length with q | q
  · rw [List.getElem?_eq_getElem q]; exact h _ (List.getElem_mem q)
  · rw [List.getElem?_eq_none q]; exact Nat.zero_le _
theorem text_x {s : List Int} (hs : Byt s) (hm : (s.length : Int) ≤ 1000000000) (n : Int) (h0 : 0 ≤ n) (h1 : n ≤ 1000000) :
    Evx (fun k => spec_l20Text.f k s n) (fun r => r.1.size ≤ 13 ∧ r.2 = n + 1) := by
  unfold spec_l20Text.f
  simp only [Option.bind_some]
  refine Evx.bind (pick_x hs hm _ _ h0 (by omega)) fun r1 p1 => ?_
  obtain ⟨e1, a1, b1, _⟩ := p1
  have b1 := b1 (by omega)
  exact Evx.pos a1 (Evx.pos b1 (Evx.now ⟨rdOf_size (by decide +kernel) _, e1⟩))
/-- What a name that was drawn is like. -/
def Nmd (n : Int) (r : ByteArray × Int × Int × ByteArray × Int × Int) : Prop := r.1.size ≤ 13 ∧ r.2.2.2.1.size ≤ 13 ∧ n ≤ r.2.2.2.2.2 ∧ r.2.2.2.2.2 ≤ n + 10
theorem name_j {s : List Int} (hs : Byt s) (hm : (s.length : Int) ≤ 1000000000) (n a : Int) (h0 : 0 ≤ n) (h1 : n ≤ 1000000) {t al : ByteArray} (ht : t.size ≤ 13) (ha : al.size ≤ 13) (k ad tm : Int) :
    Evx (fun f => spec_l20Name.j0 f a s n t k ad al tm) (fun r => r.1.size ≤ 13 ∧ r.2.2.2.1.size ≤ 13 ∧ n ≤ r.2.2.2.2.2 ∧ r.2.2.2.2.2 ≤ n + 3) := by
  refine Evx.step (fun k => by rw [spec_l20Name.j0]) ?_
  refine Evx.bind (odd_x hs hm _ _ h0 (by omega)) fun r1 p1 => ?_
  obtain ⟨n1, m1⟩ := p1
  refine Evx.ite (fun _ => ?_) (fun _ => Evx.now ⟨ht, ha, n1, by show r1.2 ≤ n + 3; omega⟩)
  refine Evx.bind (pick_x hs hm _ _ (by omega) (by omega)) fun r2 p2 => ?_
  obtain ⟨e2, a2, b2, _⟩ := p2
  refine Evx.ite (fun _ => ?_) (fun _ => Evx.ite (fun _ => ?_) (fun _ => Evx.ite (fun _ => ?_) (fun _ => ?_)))
  · simp only [Option.bind_some]
    refine Evx.bind (pick_x hs hm _ _ (by omega) (by omega)) fun r3 p3 => ?_
    obtain ⟨e3, a3, b3, _⟩ := p3
    have b3 := b3 (by omega)
    exact Evx.pos a3 (Evx.pos b3 (Evx.now ⟨rdOf_size (by decide +kernel) _, ha, by show n ≤ r3.2; omega, by show r3.2 ≤ n + 3; omega⟩))
  · refine Evx.bind (pick_x hs hm _ _ (by omega) (by omega)) fun r3 p3 => ?_
    obtain ⟨e3, a3, b3, _⟩ := p3
    exact Evx.now ⟨ht, ha, by show n ≤ r3.2; omega, by show r3.2 ≤ n + 3; omega⟩
  · refine Evx.bind (pick_x hs hm _ _ (by omega) (by omega)) fun r3 p3 => ?_
    obtain ⟨e3, a3, b3, _⟩ := p3
    exact Evx.now ⟨ht, ha, by show n ≤ r3.2; omega, by show r3.2 ≤ n + 3; omega⟩
  · exact Evx.now ⟨ht, by show (3 : Nat) ≤ 13; omega, by show n ≤ r2.2; omega, by show r2.2 ≤ n + 3; omega⟩
theorem name_x {s : List Int} (hs : Byt s) (hm : (s.length : Int) ≤ 1000000000) (n a : Int) (h0 : 0 ≤ n) (h1 : n ≤ 100000) :
    Evx (fun k => spec_l20Name.f k s n a) (Nmd n) := by
  unfold spec_l20Name.f
  refine Evx.bind (text_x hs hm _ h0 (by omega)) fun r1 p1 => ?_
  obtain ⟨s1, e1⟩ := p1
  refine Evx.bind (pick_x hs hm _ _ (by omega) (by omega)) fun r2 p2 => ?_
  obtain ⟨e2, a2, b2, _⟩ := p2
  refine Evx.bind (pick_x hs hm _ _ (by omega) (by omega)) fun r3 p3 => ?_
  obtain ⟨e3, a3, b3, _⟩ := p3
  refine Evx.bind (pick_x hs hm _ _ (by omega) (by omega)) fun r4 p4 => ?_
  obtain ⟨e4, a4, b4, _⟩ := p4
  refine Evx.ite (fun _ => ?_) (fun _ => ?_)
  · refine Evx.bind (text_x hs hm _ (by omega) (by omega)) fun r5 p5 => ?_
    obtain ⟨s5, e5⟩ := p5
    exact (name_j hs hm _ _ (by omega) (by omega) s1 s5 _ _ _).mono fun r hr => ⟨hr.1, hr.2.1, by omega, by omega⟩
  · exact (name_j hs hm _ _ (by omega) (by omega) s1 (by show (0 : Nat) ≤ 13; omega) _ _ _).mono fun r hr => ⟨hr.1, hr.2.1, by omega, by omega⟩

/-- The sizes of a name. -/
def Szd (x : S26) : Prop := (x.f0.size : Int) ≤ 1000000000 ∧ (x.f3.size : Int) ≤ 1000000000
theorem szd_rd {l : List S26} (h : ∀ x ∈ l, Szd x) {i : Int} (i0 : 0 ≤ i) (i1 : i < l.length) : Szd (rd_T26 l i) := by
  unfold rd_T26
  try unfold rdOf
  rw [List.getD_eq_getElem?_getD, List.getElem?_eq_getElem (show i.toNat < l.length by omega)]
  exact h _ (List.getElem_mem _)
theorem rdT_take {l : List S26} {i : Int} {k : Nat} (i0 : 0 ≤ i) (i1 : i < k) : rd_T26 (l.take k) i = rd_T26 l i := by
  unfold rd_T26
  try unfold rdOf
  rw [List.getD_eq_getElem?_getD, List.getD_eq_getElem?_getD, List.getElem?_take, if_pos (by omega)]
/-- The name at a place. -/
def NmR (x : S26) : Bool := NameR x.f0 x.f1 x.f2 x.f3 x.f4
/-- Names from a place on. -/
def NamesF (l : List S26) : Nat → Int → Bool
  | 0, _ => decide ((l.length : Int) ≤ 8)
  | d + 1, i => if NmR (rd_T26 l i) = true then (if (rd_T26 l i).f1 = 0 then false else if i > 0 then (if Op.bytesLess (rd_T26 l (i - 1)).f0.toList (rd_T26 l i).f0.toList = true then NamesF l d (i + 1) else false) else NamesF l d (i + 1)) else false
/-- Whether names are ok. -/
def NamesR (l : List S26) : Bool := NamesF l l.length 0
theorem spec_names_l {l : List S26} (hl : (l.length : Int) ≤ 100000000) (hs : ∀ x ∈ l, Szd x) (d : Nat) : ∀ i : Int, 0 ≤ i → i ≤ l.length → l.length - i = d → Evx (fun k => spec_NamesOk.l0 k l i) (fun r => r = NamesF l d i) := by
  induction d with
  | zero =>
    intro i i0 i1 hd
    refine Evx.step (fun k => by rw [spec_NamesOk.l0]) ?_
    exact Evx.neg (by omega) (Evx.now rfl)
  | succ d ih =>
    intro i i0 i1 hd
    have e : wrap64 (i + 1) = i + 1 := by unfold wrap64; omega
    have e1 : wrap64 (i - 1) = i - 1 := by unfold wrap64; omega
    have hz := szd_rd hs i0 (by omega : i < l.length)
    refine Evx.step (fun k => by rw [spec_NamesOk.l0]) (Evx.pos (by omega) (Evx.pos i0 ?_))
    refine Evx.bind (spec_name_x _ _ _ hz.1 hz.2) fun r1 hr => ?_
    rw [e, e1]
    unfold NamesF NmR
    rw [← hr]
    refine Evx.ite (fun h => ?_) (fun h => ?_)
    · rw [if_pos h]
      refine Evx.ite (fun h => ?_) (fun h => ?_)
      · rw [if_pos h]; exact Evx.now rfl
      · rw [if_neg h]
        refine Evx.ite (fun h => ?_) (fun h => ?_)
        · rw [if_pos h]
          refine Evx.pos (by omega) (Evx.pos (by omega) ?_)
          refine Evx.ite (fun h => ?_) (fun h => ?_)
          · rw [if_pos h]; exact ih _ (by omega) (by omega) (by omega)
          · rw [if_neg h]; exact Evx.now rfl
        · rw [if_neg h]; exact ih _ (by omega) (by omega) (by omega)
    · rw [if_neg h]; exact Evx.now rfl
theorem spec_names_x {l : List S26} (hl : (l.length : Int) ≤ 100000000) (hs : ∀ x ∈ l, Szd x) : Evx (fun k => spec_NamesOk.f k l) (fun r => r = NamesR l) := by
  unfold spec_NamesOk.f NamesR
  exact spec_names_l hl hs l.length 0 (by omega) (by omega) (by omega)
theorem impl_names_l {l : List S26} (hl : (l.length : Int) ≤ 100000000) (hs : ∀ x ∈ l, Szd x) (d : Nat) : ∀ i : Int, 0 ≤ i → i ≤ l.length → l.length - i = d → Evx (fun k => impl_NamesOk.l0 k l l (l.length : Int) i) (fun r => r = NamesF l d i) := by
  induction d with
  | zero =>
    intro i i0 i1 hd
    refine Evx.step (fun k => by rw [impl_NamesOk.l0]) ?_
    exact Evx.neg (by omega) (Evx.now rfl)
  | succ d ih =>
    intro i i0 i1 hd
    have e : wrap64 (i + 1) = i + 1 := by unfold wrap64; omega
    have e1 : wrap64 (i - 1) = i - 1 := by unfold wrap64; omega
    have hz := szd_rd hs i0 (by omega : i < l.length)
    refine Evx.step (fun k => by rw [impl_NamesOk.l0]) (Evx.pos (by omega) (Evx.pos i0 (Evx.pos (by omega) ?_)))
    refine Evx.bind (impl_name_x _ _ _ hz.1 hz.2) fun r1 hr => ?_
    rw [e, e1]
    unfold NamesF NmR
    rw [← hr]
    refine Evx.ite (fun h => ?_) (fun h => ?_)
    · rw [if_pos h]
      refine Evx.ite (fun h => ?_) (fun h => ?_)
      · rw [if_pos h]; exact Evx.now rfl
      · rw [if_neg h]
        refine Evx.ite (fun h => ?_) (fun h => ?_)
        · rw [if_pos h]
          refine Evx.pos (by omega) (Evx.pos (by omega) ?_)
          refine Evx.ite (fun h => ?_) (fun h => ?_)
          · rw [if_pos h]; exact ih _ (by omega) (by omega) (by omega)
          · rw [if_neg h]; exact Evx.now rfl
        · rw [if_neg h]; exact ih _ (by omega) (by omega) (by omega)
    · rw [if_neg h]; exact Evx.now rfl
theorem impl_names_x {l : List S26} (hl : (l.length : Int) ≤ 100000000) (hs : ∀ x ∈ l, Szd x) : Evx (fun k => impl_NamesOk.f k l) (fun r => r = NamesR l) := by
  unfold impl_NamesOk.f NamesR
  exact impl_names_l hl hs l.length 0 (by omega) (by omega) (by omega)

/-- What holds of the name at a place among ok names. -/
def NmAt (l : List S26) (i : Int) : Prop := NmR (rd_T26 l i) = true ∧ (rd_T26 l i).f1 ≠ 0 ∧ (i > 0 → Op.bytesLess (rd_T26 l (i - 1)).f0.toList (rd_T26 l i).f0.toList = true)
theorem namesF_iff (l : List S26) (d : Nat) : ∀ i : Int, NamesF l d i = true ↔ (∀ j : Int, i ≤ j → j < i + d → NmAt l j) ∧ (l.length : Int) ≤ 8 := by
  induction d with
  | zero =>
    intro i
    unfold NamesF
    constructor
    · intro h; exact ⟨fun j h1 h2 => by omega, of_decide_eq_true h⟩
    · intro h; exact decide_eq_true h.2
  | succ d ih =>
    intro i
    unfold NamesF
    constructor
    · intro h
      have hn : NmAt l i ∧ NamesF l d (i + 1) = true := by
        by_cases c1 : NmR (rd_T26 l i) = true
        · rw [if_pos c1] at h
          by_cases c2 : (rd_T26 l i).f1 = 0
          · rw [if_pos c2] at h; exact absurd h (by simp)
          · rw [if_neg c2] at h
            by_cases c3 : i > 0
            · rw [if_pos c3] at h
              by_cases c4 : Op.bytesLess (rd_T26 l (i - 1)).f0.toList (rd_T26 l i).f0.toList = true
              · rw [if_pos c4] at h; exact ⟨⟨c1, c2, fun _ => c4⟩, h⟩
              · rw [if_neg c4] at h; exact absurd h (by simp)
            · rw [if_neg c3] at h; exact ⟨⟨c1, c2, fun q => absurd q c3⟩, h⟩
        · rw [if_neg c1] at h; exact absurd h (by simp)
      have h2 := (ih (i + 1)).1 hn.2
      refine ⟨fun j h3 h4 => ?_, h2.2⟩
      by_cases e : j = i
      · rw [e]; exact hn.1
      · exact h2.1 j (by omega) (by omega)
    · intro h
      have h1 := h.1 i (by omega) (by omega)
      have h2 := (ih (i + 1)).2 ⟨fun j h3 h4 => h.1 j (by omega) (by omega), h.2⟩
      rw [if_pos h1.1, if_neg h1.2.1]
      by_cases c3 : i > 0
      · rw [if_pos c3, if_pos (h1.2.2 c3)]; exact h2
      · rw [if_neg c3]; exact h2
theorem names_take {l : List S26} (h : NamesR l = true) (k : Nat) (hk : k ≤ l.length) : NamesR (l.take k) = true := by
  have h1 := (namesF_iff l l.length 0).1 h
  have hl : (l.take k).length = k := by rw [List.length_take]; omega
  refine (namesF_iff (l.take k) (l.take k).length 0).2 ⟨fun j j0 j1 => ?_, by omega⟩
  have h2 := h1.1 j j0 (by omega)
  unfold NmAt at h2 ⊢
  rw [rdT_take j0 (by omega)]
  refine ⟨h2.1, h2.2.1, fun q => ?_⟩
  rw [rdT_take (by omega) (by omega)]
  exact h2.2.2 q

/-- What names that were drawn are like. -/
def Nms (n m : Int) (r : List S26 × Int) : Prop := (∀ x ∈ r.1, Szd x) ∧ (r.1.length : Int) ≤ 8 ∧ n ≤ r.2 ∧ r.2 ≤ m
theorem szd_snoc {l : List S26} (h : ∀ x ∈ l, Szd x) {x : S26} (hx : x.f0.size ≤ 13) (hy : x.f3.size ≤ 13) : ∀ y ∈ l ++ [x], Szd y := by
  intro y q
  rcases List.mem_append.1 q with q | q
  · exact h y q
  · rw [List.mem_singleton] at q; subst q; exact ⟨by omega, by omega⟩
theorem names_l {s : List Int} (hs : Byt s) (hm : (s.length : Int) ≤ 1000000000) (a : Int) {y : List ByteArray} (hy : ∀ x ∈ y, x.size ≤ 13) (hy7 : y.length = 7) (d : Nat) : ∀ (o : List S26) (i n : Int), (∀ x ∈ o, Szd x) → 0 ≤ i → i ≤ 7 → 7 - i = d → (o.length : Int) ≤ i → 0 ≤ n → n + 20 * d ≤ 10000 →
    Evx (fun k => spec_l20Names.l0 k a o y 7 i s n) (Nms n (n + 20 * d + 20)) := by
  induction d with
  | zero =>
    intro o i n ho i0 i1 hd hol n0 n1
    refine Evx.step (fun k => by rw [spec_l20Names.l0]) (Evx.neg (by omega) ?_)
    refine Evx.bind (odd_x hs hm _ _ n0 (by omega)) fun r1 p1 => ?_
    obtain ⟨e1, e2⟩ := p1
    refine Evx.ite (fun _ => ?_) (fun _ => Evx.now ⟨ho, by show (o.length : Int) ≤ 8; omega, e1, by show r1.2 ≤ _; omega⟩)
    refine Evx.bind (name_x hs hm _ _ (by omega) (by omega)) fun r2 p2 => ?_
    obtain ⟨q1, q2, q3, q4⟩ := p2
    refine Evx.pos (by omega) (Evx.now ⟨szd_snoc ho q1 q2, ?_, ?_, ?_⟩)
    · show ((o ++ [_]).length : Int) ≤ 8; simp; omega
    · show n ≤ r2.2.2.2.2.2; omega
    · show r2.2.2.2.2.2 ≤ _; omega
  | succ d ih =>
    intro o i n ho i0 i1 hd hol n0 n1
    have e : wrap64 (i + 1) = i + 1 := by unfold wrap64; omega
    refine Evx.step (fun k => by rw [spec_l20Names.l0]) (Evx.pos (by omega) (Evx.pos i0 (Evx.pos (by omega) ?_)))
    rw [e]
    refine Evx.bind (pick_x hs hm _ _ (by omega) (by omega)) fun r1 p1 => ?_
    obtain ⟨e1, a1, b1, _⟩ := p1
    refine Evx.ite (fun _ => ?_) (fun _ => ?_)
    · refine Evx.bind (name_x hs hm _ _ (by omega) (by omega)) fun r2 p2 => ?_
      obtain ⟨q1, q2, q3, q4⟩ := p2
      refine Evx.pos (by omega) ((ih _ _ _ (szd_snoc ho (rdOf_size hy _) q2) (by omega) (by omega) (by omega) (by simp; omega) (by omega) (by omega)).mono fun r hr => ⟨hr.1, hr.2.1, by have := hr.2.2.1; omega, by have := hr.2.2.2; omega⟩)
    · exact (ih _ _ _ ho (by omega) (by omega) (by omega) (by omega) (by omega) (by omega)).mono fun r hr => ⟨hr.1, hr.2.1, by have := hr.2.2.1; omega, by have := hr.2.2.2; omega⟩
theorem names_x {s : List Int} (hs : Byt s) (hm : (s.length : Int) ≤ 1000000000) (a : Int) (n : Int) (h0 : 0 ≤ n) (h1 : n ≤ 9000) : Evx (fun k => spec_l20Names.f k s n a) (fun r => (∀ x ∈ r.1, Szd x) ∧ (r.1.length : Int) ≤ 8 ∧ n ≤ r.2 ∧ r.2 ≤ n + 160) := by
  unfold spec_l20Names.f
  simp only [Option.bind_some]
  refine (names_l hs (by omega) a (by decide +kernel) rfl 7 [] 0 n (by simp) (by omega) (by omega) (by omega) (by simp) (by omega) (by omega)).mono fun r1 p1 => ⟨p1.1, p1.2.1, p1.2.2.1, ?_⟩
  have := p1.2.2.2; omega

/-- What a text stands for among names, from a place on. -/
def AskF (l : List S26) (s : ByteArray) : Nat → Int → ByteArray × Int × Int × ByteArray × Int
  | 0, _ => (s, 0, 0, (⟨#[]⟩ : ByteArray), 5)
  | d + 1, i => if (rd_T26 l i).f0.toList = s.toList then ((rd_T26 l i).f0, (rd_T26 l i).f1, (rd_T26 l i).f2, (rd_T26 l i).f3, (rd_T26 l i).f4) else AskF l s d (i + 1)
/-- What a text stands for among names. -/
def AskR (l : List S26) (s : ByteArray) : ByteArray × Int × Int × ByteArray × Int := AskF l s l.length 0
/-- The same with whether the names and the text are ok. -/
def NameAskR (l : List S26) (s : ByteArray) : ByteArray × Int × Int × ByteArray × Int × Bool :=
  if NamesR l = true ∧ TextR s = true then ((AskR l s).1, (AskR l s).2.1, (AskR l s).2.2.1, (AskR l s).2.2.2.1, (AskR l s).2.2.2.2, true) else ((⟨#[]⟩ : ByteArray), 0, 0, (⟨#[]⟩ : ByteArray), 0, false)

theorem impl_ask_l {l : List S26} (hl : (l.length : Int) ≤ 100000000) (s : ByteArray) (d : Nat) : ∀ i : Int, 0 ≤ i → i ≤ l.length → l.length - i = d → Evx (fun k => impl_ask.l0 k l s i) (fun r => r = AskF l s d i) := by
  induction d with
  | zero =>
    intro i i0 i1 hd
    refine Evx.step (fun k => by rw [impl_ask.l0]) ?_
    exact Evx.neg (by omega) (Evx.now rfl)
  | succ d ih =>
    intro i i0 i1 hd
    have e : wrap64 (i + 1) = i + 1 := by unfold wrap64; omega
    refine Evx.step (fun k => by rw [impl_ask.l0]) (Evx.pos (by omega) (Evx.pos i0 ?_))
    rw [e]
    unfold AskF
    refine Evx.ite (fun h => ?_) (fun h => ?_)
    · rw [if_pos h]; exact Evx.now rfl
    · rw [if_neg h]; exact ih _ (by omega) (by omega) (by omega)
theorem impl_ask_x {l : List S26} (hl : (l.length : Int) ≤ 100000000) (s : ByteArray) : Evx (fun k => impl_ask.f k l s) (fun r => r = AskR l s) := by
  unfold impl_ask.f AskR
  exact impl_ask_l hl s l.length 0 (by omega) (by omega) (by omega)

theorem impl_nameask_x {l : List S26} (hl : (l.length : Int) ≤ 100000000) (hs : ∀ x ∈ l, Szd x) {s : ByteArray} (ht : (s.size : Int) ≤ 1000000000) : Evx (fun k => impl_NameAsk.f k l s) (fun r => r = NameAskR l s) := by
  unfold impl_NameAsk.f NameAskR
  refine Evx.bind (impl_names_x hl hs) fun r1 e1 => ?_
  rw [← e1]
  refine Evx.ite (fun h1 => ?_) (fun h1 => ?_)
  · refine Evx.bind (impl_text_x ht) fun r2 e2 => ?_
    rw [← e2]
    refine Evx.ite (fun h2 => ?_) (fun h2 => ?_)
    · rw [if_pos ⟨h1, h2⟩]
      refine Evx.bind (impl_ask_x hl s) fun r3 e3 => Evx.now ?_
      rw [e3]
    · rw [if_neg (fun h => h2 h.2)]; exact Evx.now rfl
  · rw [if_neg (fun h => h1 h.1)]; exact Evx.now rfl

theorem spec_ask_l {l : List S26} (hl : (l.length : Int) ≤ 100000000) (s : ByteArray) (d : Nat) : ∀ i : Int, 0 ≤ i → i ≤ l.length → l.length - i = d → Evx (fun k => spec_NameAsk.l0 k l s i) (fun r => r = ((AskF l s d i).1, (AskF l s d i).2.1, (AskF l s d i).2.2.1, (AskF l s d i).2.2.2.1, (AskF l s d i).2.2.2.2, true)) := by
  induction d with
  | zero =>
    intro i i0 i1 hd
    refine Evx.step (fun k => by rw [spec_NameAsk.l0]) ?_
    exact Evx.neg (by omega) (Evx.now rfl)
  | succ d ih =>
    intro i i0 i1 hd
    have e : wrap64 (i + 1) = i + 1 := by unfold wrap64; omega
    refine Evx.step (fun k => by rw [spec_NameAsk.l0]) (Evx.pos (by omega) (Evx.pos i0 ?_))
    rw [e]
    unfold AskF
    refine Evx.ite (fun h => ?_) (fun h => ?_)
    · rw [if_pos h]; exact Evx.now rfl
    · rw [if_neg h]; exact ih _ (by omega) (by omega) (by omega)
theorem spec_nameask_x {l : List S26} (hl : (l.length : Int) ≤ 100000000) (hs : ∀ x ∈ l, Szd x) {s : ByteArray} (ht : (s.size : Int) ≤ 1000000000) : Evx (fun k => spec_NameAsk.f k l s) (fun r => r = NameAskR l s) := by
  unfold spec_NameAsk.f NameAskR
  refine Evx.bind (spec_names_x hl hs) fun r1 e1 => ?_
  rw [← e1]
  refine Evx.ite (fun h1 => ?_) (fun h1 => ?_)
  · refine Evx.bind (spec_text_x ht) fun r2 e2 => ?_
    rw [← e2]
    refine Evx.step (fun k => by rw [spec_NameAsk.j0]) (Evx.ite (fun h2 => ?_) (fun h2 => ?_))
    · rw [if_neg (fun h => by simp [h.2] at h2)]; exact Evx.now rfl
    · rw [if_pos ⟨h1, by simpa using h2⟩]
      exact spec_ask_l hl s l.length 0 (by omega) (by omega) (by omega)
  · rw [if_neg (fun h => h1 h.1)]
    exact Evx.step (fun k => by rw [spec_NameAsk.j0]) (Evx.pos rfl (Evx.now rfl))

theorem askF_or {l : List S26} {s : ByteArray} (d : Nat) : ∀ i : Int, (∃ j : Int, i ≤ j ∧ j < i + d ∧ (rd_T26 l j).f0.toList = s.toList ∧ AskF l s d i = ((rd_T26 l j).f0, (rd_T26 l j).f1, (rd_T26 l j).f2, (rd_T26 l j).f3, (rd_T26 l j).f4)) ∨ AskF l s d i = (s, 0, 0, (⟨#[]⟩ : ByteArray), 5) := by
  induction d with
  | zero => intro i; exact .inr rfl
  | succ d ih =>
    intro i
    unfold AskF
    by_cases h : (rd_T26 l i).f0.toList = s.toList
    · rw [if_pos h]; exact .inl ⟨i, by omega, by omega, h, rfl⟩
    · rw [if_neg h]
      rcases ih (i + 1) with ⟨j, h1, h2, h3⟩ | h1
      · exact .inl ⟨j, by omega, by omega, h3⟩
      · exact .inr h1
theorem empty_nil : ((⟨#[]⟩ : ByteArray).toList == ([] : List UInt8)) = true := by decide +kernel
theorem ask_ok {l : List S26} (hs : ∀ x ∈ l, Szd x) {s : ByteArray} (ht : (s.size : Int) ≤ 1000000000) (h1 : NamesR l = true) (h2 : TextR s = true) :
    NameR (AskR l s).1 (AskR l s).2.1 (AskR l s).2.2.1 (AskR l s).2.2.2.1 (AskR l s).2.2.2.2 = true ∧ (AskR l s).1.toList = s.toList ∧ ((AskR l s).1.size : Int) ≤ 1000000000 ∧ ((AskR l s).2.2.2.1.size : Int) ≤ 1000000000 := by
  have hn := (namesF_iff l l.length 0).1 h1
  unfold AskR
  rcases askF_or (l := l) (s := s) l.length 0 with ⟨j, j0, j1, hj, he⟩ | he
  · rw [he]
    have hz := szd_rd hs j0 (by omega)
    exact ⟨(hn.1 j (by omega) (by omega)).1, hj, hz.1, hz.2⟩
  · rw [he]
    refine ⟨?_, rfl, ht, by show ((0 : Nat) : Int) ≤ 1000000000; omega⟩
    unfold NameR
    rw [h2, if_pos rfl, empty_nil]; rfl

/-- What a text stands for, followed at most d times. -/
def FindF (l : List S26) : Nat → ByteArray → Int × Bool
  | 0, _ => (0, false)
  | d + 1, s => if (AskR l s).2.1 = 1 then ((AskR l s).2.2.1, true) else if (AskR l s).2.1 = 0 then (0, false) else FindF l d (AskR l s).2.2.2.1
/-- The address for which a text stands. -/
def NameFindR (l : List S26) (s : ByteArray) : Int × Bool := if NamesR l = true ∧ TextR s = true then FindF l 5 s else (0, false)
theorem ask_alias {l : List S26} (hs : ∀ x ∈ l, Szd x) {s : ByteArray} (ht : (s.size : Int) ≤ 1000000000) (h1 : NamesR l = true) (h2 : TextR s = true) (k1 : (AskR l s).2.1 ≠ 1) (k0 : (AskR l s).2.1 ≠ 0) : TextR (AskR l s).2.2.2.1 = true ∧ ((AskR l s).2.2.2.1.size : Int) ≤ 1000000000 := by
  obtain ⟨a1, a2, a3, a4⟩ := ask_ok hs ht h1 h2
  refine ⟨?_, a4⟩
  unfold NameR at a1
  rw [if_neg k0, if_neg k1] at a1
  by_cases c : (AskR l s).2.1 = 2
  · rw [if_pos c] at a1
    simp only [Bool.and_eq_true] at a1
    exact a1.2.2
  · rw [if_neg c] at a1
    simp at a1
theorem find_more {l : List S26} (d : Nat) : ∀ (s : ByteArray) (a : Int), FindF l d s = (a, true) → FindF l (d + 1) s = (a, true) := by
  induction d with
  | zero => intro s a h; unfold FindF at h; simp at h
  | succ d ih =>
    intro s a h
    unfold FindF at h ⊢
    by_cases c1 : (AskR l s).2.1 = 1
    · rw [if_pos c1] at h ⊢; exact h
    · rw [if_neg c1] at h ⊢
      by_cases c2 : (AskR l s).2.1 = 0
      · rw [if_pos c2] at h ⊢; exact h
      · rw [if_neg c2] at h ⊢; exact ih _ _ h
theorem impl_find_l {l : List S26} (hl : (l.length : Int) ≤ 100000000) (d : Nat) : ∀ (s : ByteArray) (i : Int), 0 ≤ i → i ≤ 5 → 5 - i = d → Evx (fun k => impl_NameFind.l0 k l s i) (fun r => r = FindF l d s) := by
  induction d with
  | zero =>
    intro s i i0 i1 hd
    refine Evx.step (fun k => by rw [impl_NameFind.l0]) ?_
    exact Evx.neg (by omega) (Evx.now rfl)
  | succ d ih =>
    intro s i i0 i1 hd
    have e : wrap64 (i + 1) = i + 1 := by unfold wrap64; omega
    refine Evx.step (fun k => by rw [impl_NameFind.l0]) (Evx.pos (by omega) ?_)
    rw [e]
    refine Evx.bind (impl_ask_x hl s) fun r1 e1 => ?_
    subst e1
    unfold FindF
    refine Evx.ite (fun c => ?_) (fun c => ?_)
    · rw [if_pos c]; exact Evx.now rfl
    · rw [if_neg c]
      refine Evx.ite (fun c => ?_) (fun c => ?_)
      · rw [if_pos c]; exact Evx.now rfl
      · rw [if_neg c]; exact ih _ _ (by omega) (by omega) (by omega)
theorem impl_find_x {l : List S26} (hl : (l.length : Int) ≤ 100000000) (hs : ∀ x ∈ l, Szd x) {s : ByteArray} (ht : (s.size : Int) ≤ 1000000000) : Evx (fun k => impl_NameFind.f k l s) (fun r => r = NameFindR l s) := by
  unfold impl_NameFind.f NameFindR
  refine Evx.bind (impl_names_x hl hs) fun r1 e1 => ?_
  rw [← e1]
  refine Evx.ite (fun h1 => ?_) (fun h1 => ?_)
  · refine Evx.bind (impl_text_x ht) fun r2 e2 => ?_
    rw [← e2]
    refine Evx.step (fun k => by rw [impl_NameFind.j0]) (Evx.ite (fun h2 => ?_) (fun h2 => ?_))
    · rw [if_neg (fun h => by simp [h.2] at h2)]; exact Evx.now rfl
    · rw [if_pos ⟨h1, by simpa using h2⟩]
      exact impl_find_l hl 5 s 0 (by omega) (by omega) (by omega)
  · rw [if_neg (fun h => h1 h.1)]
    exact Evx.step (fun k => by rw [impl_NameFind.j0]) (Evx.pos rfl (Evx.now rfl))
theorem nameask_no {l : List S26} {s : ByteArray} (h : ¬ (NamesR l = true ∧ TextR s = true)) : NameAskR l s = ((⟨#[]⟩ : ByteArray), 0, 0, (⟨#[]⟩ : ByteArray), 0, false) := by unfold NameAskR; rw [if_neg h]
theorem nameask_yes {l : List S26} {s : ByteArray} (h : NamesR l = true ∧ TextR s = true) : NameAskR l s = ((AskR l s).1, (AskR l s).2.1, (AskR l s).2.2.1, (AskR l s).2.2.2.1, (AskR l s).2.2.2.2, true) := by unfold NameAskR; rw [if_pos h]
theorem spec_find_l {l : List S26} (hl : (l.length : Int) ≤ 100000000) (hs : ∀ x ∈ l, Szd x) (hn : NamesR l = true) (d : Nat) : ∀ (s : ByteArray) (i : Int), (s.size : Int) ≤ 1000000000 → TextR s = true → 0 ≤ i → i ≤ 5 → 5 - i = d → Evx (fun k => spec_NameFind.l0 k l s i) (fun r => r = FindF l d s) := by
  induction d with
  | zero =>
    intro s i ht hx i0 i1 hd
    refine Evx.step (fun k => by rw [spec_NameFind.l0]) ?_
    exact Evx.neg (by omega) (Evx.now rfl)
  | succ d ih =>
    intro s i ht hx i0 i1 hd
    have e : wrap64 (i + 1) = i + 1 := by unfold wrap64; omega
    refine Evx.step (fun k => by rw [spec_NameFind.l0]) (Evx.pos (by omega) ?_)
    refine Evx.bind (spec_nameask_x hl hs ht) fun r1 e1 => ?_
    rw [nameask_yes ⟨hn, hx⟩] at e1
    subst e1
    refine Evx.pos rfl (Evx.step (fun k => by rw [spec_NameFind.j1]) ?_)
    rw [e]
    unfold FindF
    refine Evx.ite (fun c => ?_) (fun c => ?_)
    · have c' : (AskR l s).2.1 = 0 := by simpa using c
      rw [if_neg (by omega), if_pos c']; exact Evx.now rfl
    · have c' : (AskR l s).2.1 ≠ 0 := by simpa using c
      refine Evx.ite (fun q => ?_) (fun q => ?_)
      · rw [if_pos q]; exact Evx.now rfl
      · rw [if_neg q, if_neg c']
        obtain ⟨t1, t2⟩ := ask_alias hs ht hn hx q c'
        exact ih _ _ t2 t1 (by omega) (by omega) (by omega)
theorem spec_find_x {l : List S26} (hl : (l.length : Int) ≤ 100000000) (hs : ∀ x ∈ l, Szd x) {s : ByteArray} (ht : (s.size : Int) ≤ 1000000000) : Evx (fun k => spec_NameFind.f k l s) (fun r => r = NameFindR l s) := by
  unfold spec_NameFind.f NameFindR
  by_cases h : NamesR l = true ∧ TextR s = true
  · rw [if_pos h]
    exact spec_find_l hl hs h.1 5 s 0 ht h.2 (by omega) (by omega) (by omega)
  · rw [if_neg h]
    refine Evx.step (fun k => by rw [spec_NameFind.l0]) (Evx.pos (by omega) ?_)
    refine Evx.bind (spec_nameask_x hl hs ht) fun r1 e1 => ?_
    rw [nameask_no h] at e1
    subst e1
    refine Evx.neg (by simp) (Evx.step (fun k => by rw [spec_NameFind.j1]) (Evx.pos rfl (Evx.now rfl)))

theorem draw_find_x {l : List Int} (hl : Byt l) : Evx (fun k => spec_DrawNameFind.f k l) (fun r => ((∀ x ∈ r.1, Szd x) ∧ (r.1.length : Int) ≤ 8) ∧ r.2.size ≤ 13) := by
  unfold spec_DrawNameFind.f
  obtain ⟨r, e, hbr, hnr, hp⟩ := open_x hl
  rw [e]; simp only [Option.bind_some]
  refine Evx.bind (names_x hbr (by omega) 20 r.2 (by omega) (by omega)) fun r1 p1 => ?_
  obtain ⟨q1, q2, q3, q4⟩ := p1
  exact Evx.bind (text_x hbr (by omega) _ (by omega) (by omega)) fun r2 p2 => Evx.now ⟨⟨q1, q2⟩, p2.1⟩
theorem live_x : Evx (fun k => (laws_alive.f k).bind fun t => some t) (fun r => r = true) := Evx.bind alive_x fun r hr => Evx.now hr
theorem FnNameFind : laws_FnNameFind.Pure := by
  intro l hm hn hw
  have hb := byt_wf hw
  refine Evx.law (g := fun k => laws_FnNameFind.f k l) ?_
  unfold laws_FnNameFind.f
  refine Evx.ite (fun _ => Evx.now rfl) (fun hlen => ?_)
  refine Evx.bind (draw_find_x hb) fun y hy => ?_
  obtain ⟨⟨hs, hl⟩, ht⟩ := hy
  have hts : (y.2.size : Int) ≤ 1000000000 := by omega
  have hl' : (y.1.length : Int) ≤ 100000000 := by omega
  refine Evx.bind (impl_find_x hl' hs hts) fun r1 e1 => ?_
  refine Evx.bind (spec_find_x hl' hs hts) fun r2 e2 => ?_
  rw [← e1] at e2
  subst e2
  refine Evx.neg (by simp) ?_
  refine Evx.step (fun k => by rw [laws_FnNameFind.j0]) (Evx.neg (by simp) ?_)
  refine Evx.bind (impl_nameask_x hl' hs hts) fun r3 e3 => ?_
  by_cases h : NamesR y.1 = true ∧ TextR y.2 = true
  · rw [nameask_yes h] at e3
    subst e3
    unfold NameFindR at e1
    rw [if_pos h] at e1
    refine Evx.pos rfl (Evx.step (fun k => by rw [laws_FnNameFind.j1]) ?_)
    unfold FindF at e1
    refine Evx.ite (fun c => ?_) (fun c => ?_)
    · have c' : (AskR y.1 y.2).2.1 = 0 := by simpa using c
      rw [if_neg (by omega), if_pos c'] at e1
      subst e1
      exact Evx.neg (by simp) live_x
    · have c' : (AskR y.1 y.2).2.1 ≠ 0 := by simpa using c
      refine Evx.ite (fun q => ?_) (fun q => ?_)
      · have q' : (AskR y.1 y.2).2.1 = 1 := q
        rw [if_pos q'] at e1
        subst e1
        exact Evx.pos rfl (Evx.pos rfl live_x)
      · have q' : (AskR y.1 y.2).2.1 ≠ 1 := q
        rw [if_neg q', if_neg c'] at e1
        obtain ⟨t1, t2⟩ := ask_alias hs hts h.1 h.2 q' c'
        refine Evx.bind (impl_find_x hl' hs t2) fun r4 e4 => ?_
        unfold NameFindR at e4
        rw [if_pos ⟨h.1, t1⟩] at e4
        refine Evx.ite (fun z => ?_) (fun z => live_x)
        have hf := find_more 4 (AskR y.1 y.2).2.2.2.1 r2.1 (by rw [← e1]; exact Prod.ext rfl z)
        rw [hf] at e4
        subst e4
        exact Evx.pos rfl (Evx.pos rfl live_x)
  · rw [nameask_no h] at e3
    subst e3
    unfold NameFindR at e1
    rw [if_neg h] at e1
    subst e1
    refine Evx.neg (by simp) (Evx.step (fun k => by rw [laws_FnNameFind.j1]) (Evx.pos rfl (Evx.neg (by simp) live_x)))

end Go.Proofs.Ytmgnmgobibpjjaa.Pure
