/- The plain statement of FnKeptFind: for all arguments, the law's function comes to true; there is no condition beyond those it names. -/
import Derived.Test.YtmgnmgobibpjjaaGFnKeptFindx16
set_option linter.unusedVariables false
set_option linter.unusedSimpArgs false
set_option maxRecDepth 100000
namespace Go.Proofs.Ytmgnmgobibpjjaa.Pure
open Go.RowKit Go.Proofs.Ytmgnmgobibpjjaa.GFnKeptFind Go.Proofs.YtmgnmgobibpjjaaVKeptFind.PrintWords Go.Proofs.YtmgnmgobibpjjaaVKeptFind.PrintLast Go.Proofs.YtmgnmgobibpjjaaVKeptFind.PrintMore

theorem w64 {x : Int} (h0 : -9223372036854775808 ≤ x) (h1 : x ≤ 9223372036854775807) : wrap64 x = x := by unfold wrap64; omega

/-- It comes to an answer of which P holds. -/
def Evx {α : Type} (g : Nat → Option α) (P : α → Prop) : Prop := ∃ r, Ev g r ∧ P r
theorem Evx.bind {α β : Type} {g : Nat → Option α} {f : Nat → α → Option β} {P : α → Prop} {Q : β → Prop} (h : Evx g P) (k : ∀ a, P a → Evx (fun n => f n a) Q) : Evx (fun n => (g n).bind (f n)) Q := by
  obtain ⟨a, ha, pa⟩ := h
  obtain ⟨r, hr, qr⟩ := k a pa
  exact ⟨r, Ev.bind ha hr, qr⟩
theorem Evx.now {α : Type} {P : α → Prop} {r : α} (h : P r) : Evx (fun _ => some r) P := ⟨r, Ev.now r, h⟩
theorem Evx.pos {α : Type} {c : Prop} [Decidable c] {f g : Nat → Option α} {P : α → Prop} (hc : c) (h : Evx f P) : Evx (fun n => if c then f n else g n) P := by
  simp only [if_pos hc]; exact h
theorem Evx.neg {α : Type} {c : Prop} [Decidable c] {f g : Nat → Option α} {P : α → Prop} (hc : ¬ c) (h : Evx g P) : Evx (fun n => if c then f n else g n) P := by
  simp only [if_neg hc]; exact h
theorem Evx.ite {α : Type} {c : Prop} [Decidable c] {f g : Nat → Option α} {P : α → Prop} (h : c → Evx f P) (k : ¬ c → Evx g P) : Evx (fun n => if c then f n else g n) P := by
  by_cases hc : c
  · exact Evx.pos hc (h hc)
  · exact Evx.neg hc (k hc)
theorem Evx.step {α : Type} {g f : Nat → Option α} {P : α → Prop} (h : ∀ k, g (k + 1) = f k) (k : Evx f P) : Evx g P := by
  obtain ⟨r, hr, p⟩ := k
  exact ⟨r, Ev.step h hr, p⟩
theorem Evx.mono {α : Type} {g : Nat → Option α} {P Q : α → Prop} (h : Evx g P) (k : ∀ r, P r → Q r) : Evx g Q := by
  obtain ⟨r, hr, p⟩ := h
  exact ⟨r, hr, k r p⟩
theorem Evx.law {g : Nat → Option Bool} (h : Evx g (fun r => r = true)) : ∃ k, g k = some true := by
  obtain ⟨r, hr, rfl⟩ := h
  exact hr.rounds
theorem Evx.of {α : Type} {g : Nat → Option α} {r : α} {P : α → Prop} (hg : ∀ k, LeO (g k) (g (k + 1))) {k : Nat} (h : g k = some r) (p : P r) : Evx g P := ⟨r, Ev.of hg h, p⟩

/-- All are bytes. -/
def Byt (l : List Int) : Prop := ∀ x ∈ l, 0 ≤ x ∧ x ≤ 255
theorem byt_wf {l : List Int} (h : ∀ x ∈ l, (Lit.int .u8 x).wf = true) : Byt l := by
  intro x hx
  have := h x hx
  simp [Lit.wf, IntKind.min, IntKind.max, IntKind.signed, IntKind.bits] at this
  omega
theorem byt_rd {l : List Int} (h : Byt l) (i : Int) : 0 ≤ rd l i ∧ rd l i ≤ 255 := by
  unfold rd
  by_cases hi : i.toNat < l.length
  · rw [List.getD_eq_getElem?_getD, List.getElem?_eq_getElem hi]; exact h _ (List.getElem_mem hi)
  · rw [List.getD_eq_getElem?_getD, List.getElem?_eq_none (by omega)]; simp
theorem xor_nn {x y : Int} (hx : 0 ≤ x) (hx1 : x < 4611686018427387904) (hy : 0 ≤ y) (hy1 : y < 4611686018427387904) : 0 ≤ Go.bits .xor .i64 x y := by
  obtain ⟨a, rfl⟩ := Int.eq_ofNat_of_zero_le hx
  obtain ⟨b, rfl⟩ := Int.eq_ofNat_of_zero_le hy
  have ha : a < 2 ^ 62 := by omega
  have hb : b < 2 ^ 62 := by omega
  have hc := Nat.xor_lt_two_pow ha hb
  unfold Go.bits
  simp only [BitVec.ofInt_natCast, BitVec.toNat_xor, BitVec.toNat_ofNat]
  rw [IntKind.wrap_i64]
  have e : IntKind.i64.bits = 64 := rfl
  rw [e, Nat.mod_eq_of_lt (by omega), Nat.mod_eq_of_lt (by omega)]
  omega

/-- What a draw of a number below a tells. -/
def Pk (n a : Int) (r : Int × Int) : Prop := r.2 = n + 1 ∧ 0 ≤ r.1 ∧ (1 ≤ a → r.1 < a) ∧ (a < 1 → r.1 = 0)
theorem tmod_rng {x a : Int} (hx : 0 ≤ x) (ha : 1 ≤ a) : 0 ≤ Int.tmod x a ∧ Int.tmod x a < a := by
  rw [Int.tmod_eq_emod_of_nonneg hx]
  exact ⟨Int.emod_nonneg _ (by omega), Int.emod_lt_of_pos _ (by omega)⟩
theorem pick_j {s : List Int} (hs : Byt s) {n a : Int} (h0 : 0 ≤ n) (h1 : n ≤ 1000000000) (ha : 1 ≤ a) (hl : 1 ≤ (s.length : Int)) (hm : (s.length : Int) ≤ 1000000000) :
    Evx (fun k => spec_l20Rd_pick.j0 k a false s (n + 1)) (Pk n a) := by
  refine Evx.step (fun k => by rw [spec_l20Rd_pick.j0]) ?_
  have e1 : wrap64 (n + 1 - 1) = n := by unfold wrap64; omega
  have e2 : wrap64 (n * 7) = n * 7 := by unfold wrap64; omega
  have e3 : wrap64 (n * 7 + 3) = n * 7 + 3 := by unfold wrap64; omega
  have e4 : wrap64 (n * 29) = n * 29 := by unfold wrap64; omega
  simp only [e1, e2, e3, e4]
  refine Evx.neg (by simp) ?_
  refine Evx.ite (fun hlt => ?_) (fun hge => ?_)
  · refine Evx.pos h0 (Evx.neg (by omega) (Evx.now ?_))
    have hb := byt_rd hs n
    have e5 : wrap64 (rd s n) = rd s n := by unfold wrap64; omega
    rw [e5]
    have := tmod_rng hb.1 ha
    exact ⟨rfl, this.1, fun _ => this.2, fun h => by omega⟩
  · refine Evx.neg (by omega) ?_
    have r1 := tmod_rng h0 hl
    have r2 := tmod_rng (x := n * 7 + 3) (by omega) hl
    refine Evx.pos r1.1 (Evx.pos r1.2 (Evx.pos r2.1 (Evx.pos r2.2 (Evx.neg (by omega) (Evx.now ?_)))))
    have b1 := byt_rd hs (Int.tmod n s.length)
    have b2 := byt_rd hs (Int.tmod (n * 7 + 3) s.length)
    generalize rd s (Int.tmod n s.length) = x at b1 ⊢
    generalize rd s (Int.tmod (n * 7 + 3) s.length) = y at b2 ⊢
    have q0 : 0 ≤ Int.tdiv n s.length := Int.tdiv_nonneg h0 (by omega)
    have q1 : Int.tdiv n s.length ≤ n := by
      rw [Int.tdiv_eq_ediv_of_nonneg h0]; exact Int.ediv_le_self _ h0
    generalize Int.tdiv n s.length = q at q0 q1 ⊢
    have f1 : wrap64 x = x := by unfold wrap64; omega
    have f2 : wrap64 y = y := by unfold wrap64; omega
    have f3 : wrap64 (x * 131) = x * 131 := by unfold wrap64; omega
    have f4 : wrap64 (y * 1117) = y * 1117 := by unfold wrap64; omega
    have f5 : wrap64 (x * 131 + y * 1117) = x * 131 + y * 1117 := by unfold wrap64; omega
    have f6 : wrap64 (x * 131 + y * 1117 + n * 29) = x * 131 + y * 1117 + n * 29 := by unfold wrap64; omega
    have f7 : wrap64 q = q := by unfold wrap64; omega
    have f8 : wrap64 (q * 53) = q * 53 := by unfold wrap64; omega
    have f9 : wrap64 (x * 131 + y * 1117 + n * 29 + q * 53) = x * 131 + y * 1117 + n * 29 + q * 53 := by unfold wrap64; omega
    simp only [f1, f2, f3, f4, f5, f6, f7, f8, f9]
    have z0 : 0 ≤ x * 131 + y * 1117 + n * 29 + q * 53 := by omega
    have z1 : x * 131 + y * 1117 + n * 29 + q * 53 < 1000000000000 := by omega
    generalize x * 131 + y * 1117 + n * 29 + q * 53 = z at z0 z1 ⊢
    have f10 : wrap64 (Int.tdiv z 64) = z / 64 := by
      rw [Int.tdiv_eq_ediv_of_nonneg z0]; unfold wrap64; omega
    rw [f10]
    have := tmod_rng (xor_nn (x := z) (y := z / 64) z0 (by omega) (by omega) (by omega)) ha
    exact ⟨rfl, this.1, fun _ => this.2, fun h => by omega⟩
theorem pick_x {s : List Int} (hs : Byt s) (hm : (s.length : Int) ≤ 1000000000) (n a : Int) (h0 : 0 ≤ n) (h1 : n ≤ 1000000000) :
    Evx (fun k => spec_l20Rd_pick.f k s n a) (Pk n a) := by
  unfold spec_l20Rd_pick.f
  have e0 : wrap64 (n + 1) = n + 1 := by unfold wrap64; omega
  rw [e0]
  refine Evx.ite (fun ha => ?_) (fun ha => ?_)
  · refine Evx.step (fun k => by rw [spec_l20Rd_pick.j0]) (Evx.pos rfl (Evx.now ?_))
    exact ⟨rfl, Int.le_refl _, fun h => by omega, fun _ => rfl⟩
  · by_cases hl : (s.length : Int) = 0
    · have e : ((s.length : Int) == 0) = true := beq_iff_eq.mpr hl
      rw [e]
      refine Evx.step (fun k => by rw [spec_l20Rd_pick.j0]) (Evx.pos rfl (Evx.now ?_))
      exact ⟨rfl, Int.le_refl _, fun h => by omega, fun _ => rfl⟩
    · have e : ((s.length : Int) == 0) = false := beq_eq_false_iff_ne.mpr hl
      rw [e]
      exact pick_j hs h0 h1 (by omega) (by omega) hm
/-- What the reader that is opened is. -/
def Opn (r : List Int × Int) : Prop := Byt r.1 ∧ (r.1.length : Int) ≤ 2000 ∧ r.2 = 0
theorem open_x {l : List Int} (hl : Byt l) : ∃ r, spec_l20Open.f l = some r ∧ Opn r := by
  unfold spec_l20Open.f
  by_cases h : (l.length : Int) > 2000
  · rw [if_pos h, if_pos (by omega)]
    exact ⟨_, rfl, fun x hx => hl x (List.mem_of_mem_take hx), by simp only [List.length_take]; omega, rfl⟩
  · rw [if_neg h]
    exact ⟨_, rfl, hl, by simp only []; omega, rfl⟩

theorem alive_x : Evx (fun k => laws_alive.f k) (fun r => r = true) := Evx.of laws_alive.mono (k := 10) (r := true) (by decide +kernel) rfl

theorem impl_in_eq (a b c : Int) : impl_in.f a b c = some (decide (b ≤ a ∧ a ≤ c)) := by
  unfold impl_in.f
  by_cases h : b ≤ a
  · rw [if_pos h]; simp [h]
  · rw [if_neg (by omega)]; simp [h]
theorem spec_in_eq (a b c : Int) : spec_l1In.f a b c = some (decide (b ≤ a ∧ a ≤ c)) := by
  unfold spec_l1In.f
  by_cases h : b ≤ a
  · rw [if_pos h]; simp [h]
  · rw [if_neg (by omega)]; simp [h]

theorem odd_x {s : List Int} (hs : Byt s) (hm : (s.length : Int) ≤ 1000000000) (n a : Int) (h0 : 0 ≤ n) (h1 : n ≤ 1000000000) :
    Evx (fun k => spec_l20Rd_odd.f k s n a) (fun r => n ≤ r.2 ∧ r.2 ≤ n + 1) := by
  unfold spec_l20Rd_odd.f
  refine Evx.ite (fun h => ?_) (fun h => ?_)
  · refine Evx.bind (pick_x hs hm n a h0 h1) fun r hr => Evx.now ?_
    obtain ⟨e, _⟩ := hr
    simp only [e]; omega
  · exact Evx.now ⟨Int.le_refl _, by simp only []; omega⟩

theorem rd_drop {l : List Int} {i : Int} (h0 : 0 ≤ i) (h1 : i < l.length) : l.drop i.toNat = rd l i :: l.drop (i + 1).toNat := by
  have hi : i.toNat < l.length := by omega
  rw [List.drop_eq_getElem_cons hi]
  unfold rd
  rw [List.getD_eq_getElem?_getD, List.getElem?_eq_getElem hi]
  have : (i + 1).toNat = i.toNat + 1 := by omega
  rw [this]; rfl
/-- A small letter. -/
def Ltr (b : Int) : Bool := decide (97 ≤ b) && decide (b ≤ 122)
/-- A text of a name. -/
def TextR (s : ByteArray) : Bool := (bytesOf s).all Ltr && decide (1 ≤ (s.size : Int) ∧ (s.size : Int) ≤ 12)
theorem all_cons {b : Int} {l : List Int} : (b :: l).all Ltr = (Ltr b && l.all Ltr) := rfl
theorem spec_text_l {s : ByteArray} (hm : (s.size : Int) ≤ 1000000000) (d : Nat) : ∀ i : Int, 0 ≤ i → i ≤ s.size → s.size - i = d →
    Evx (fun k => spec_l19Word.l0 k s i) (fun r => r = (((bytesOf s).drop i.toNat).all Ltr && decide (1 ≤ (s.size : Int) ∧ (s.size : Int) ≤ 12))) := by
  have hl := bytesOf_length s
  induction d with
  | zero =>
    intro i i0 i1 hd
    refine Evx.step (fun k => by rw [spec_l19Word.l0]) (Evx.neg (by omega) ?_)
    simp only [spec_in_eq, Option.bind_some]
    refine Evx.now ?_
    rw [List.drop_of_length_le (by omega)]; rfl
  | succ d ih =>
    intro i i0 i1 hd
    have e : wrap64 (i + 1) = i + 1 := by unfold wrap64; omega
    refine Evx.step (fun k => by rw [spec_l19Word.l0]) (Evx.pos (by omega) (Evx.pos i0 ?_))
    rw [e, ← rd_bytesOf, rd_drop i0 (by omega), all_cons]
    refine Evx.ite (fun h => Evx.now ?_) (fun h => Evx.ite (fun h2 => Evx.now ?_) (fun h2 => ?_))
    · unfold Ltr; rw [decide_eq_false (show ¬ 97 ≤ rd (bytesOf s) i by omega)]; simp
    · unfold Ltr; rw [decide_eq_false (show ¬ rd (bytesOf s) i ≤ 122 by omega)]; simp
    · have hL : Ltr (rd (bytesOf s) i) = true := by unfold Ltr; simp; omega
      rw [hL, Bool.true_and]
      exact ih _ (by omega) (by omega) (by omega)
theorem spec_text_x {s : ByteArray} (hm : (s.size : Int) ≤ 1000000000) : Evx (fun k => spec_l19Word.f k s) (fun r => r = TextR s) := by
  unfold spec_l19Word.f
  exact spec_text_l hm s.size 0 (by omega) (by omega) (by omega)
theorem impl_text_l {s : ByteArray} (hm : (s.size : Int) ≤ 1000000000) (d : Nat) : ∀ i : Int, 0 ≤ i → i ≤ s.size → s.size - i = d →
    Evx (fun k => impl_textOk.l0 k s (bytesOf s) (s.size : Int) i) (fun r => r = (((bytesOf s).drop i.toNat).all Ltr && decide (1 ≤ (s.size : Int) ∧ (s.size : Int) ≤ 12))) := by
  have hl := bytesOf_length s
  induction d with
  | zero =>
    intro i i0 i1 hd
    refine Evx.step (fun k => by rw [impl_textOk.l0]) (Evx.neg (by omega) ?_)
    simp only [impl_in_eq, Option.bind_some]
    refine Evx.now ?_
    rw [List.drop_of_length_le (by omega)]; rfl
  | succ d ih =>
    intro i i0 i1 hd
    have e : wrap64 (i + 1) = i + 1 := by unfold wrap64; omega
    refine Evx.step (fun k => by rw [impl_textOk.l0]) (Evx.pos (by omega) (Evx.pos i0 (Evx.pos (by omega) ?_)))
    rw [e, rd_drop i0 (by omega), all_cons]
    refine Evx.ite (fun h => Evx.now ?_) (fun h => Evx.ite (fun h2 => Evx.now ?_) (fun h2 => ?_))
    · unfold Ltr; rw [decide_eq_false (show ¬ 97 ≤ rd (bytesOf s) i by omega)]; simp
    · unfold Ltr; rw [decide_eq_false (show ¬ rd (bytesOf s) i ≤ 122 by omega)]; simp
    · have hL : Ltr (rd (bytesOf s) i) = true := by unfold Ltr; simp; omega
      rw [hL, Bool.true_and]
      exact ih _ (by omega) (by omega) (by omega)
theorem impl_text_x {s : ByteArray} (hm : (s.size : Int) ≤ 1000000000) : Evx (fun k => impl_textOk.f k s) (fun r => r = TextR s) := by
  unfold impl_textOk.f
  simp only [Option.bind_some, List.nil_append]
  rw [bytesOf_length]
  exact Evx.pos (by simp; omega) (impl_text_l hm s.size 0 (by omega) (by omega) (by omega))
/-- A name. -/
def NameR (t : ByteArray) (k a : Int) (al : ByteArray) (tm : Int) : Bool :=
  TextR t && decide (1 ≤ tm ∧ tm ≤ 50) && (if k = 0 then decide (a = 0) && (al.toList == ([] : List UInt8)) else if k = 1 then decide (0 ≤ a ∧ a ≤ 65535) && (al.toList == ([] : List UInt8)) else if k = 2 then decide (a = 0) && TextR al else false)
theorem spec_name_x {t al : ByteArray} (k a tm : Int) (ht : (t.size : Int) ≤ 1000000000) (hal : (al.size : Int) ≤ 1000000000) : Evx (fun n => spec_NameOk.f n t k a al tm) (fun r => r = NameR t k a al tm) := by
  unfold spec_NameOk.f
  simp only [spec_in_eq, Option.bind_some]
  refine Evx.bind (spec_text_x ht) fun r1 e1 => ?_
  unfold NameR
  rw [← e1]
  refine Evx.ite (fun h => ?_) (fun h => ?_)
  · rw [h]
    by_cases c : 1 ≤ tm ∧ tm ≤ 50
    · rw [decide_eq_true c]
      refine Evx.step (fun k => by rw [spec_NameOk.j0]) (Evx.neg (by simp) ?_)
      refine Evx.ite (fun h1 => ?_) (fun h1 => Evx.ite (fun h2 => ?_) (fun h2 => Evx.ite (fun h3 => ?_) (fun h3 => ?_)))
      · simp only [spec_in_eq, Option.bind_some]
        refine Evx.ite (fun q => Evx.now ?_) (fun q => Evx.now ?_)
        · rw [if_neg (by omega), if_pos h1, q]; simp
        · have q : decide (0 ≤ a ∧ a ≤ 65535) = false := by simpa using q
          rw [if_neg (by omega), if_pos h1, q]; simp
      · refine Evx.ite (fun q => ?_) (fun q => Evx.now ?_)
        · refine Evx.bind (spec_text_x hal) fun r2 e2 => Evx.now ?_
          rw [if_neg (by omega), if_neg (by omega), if_pos h2, decide_eq_true q, e2]; simp
        · rw [if_neg (by omega), if_neg (by omega), if_pos h2, decide_eq_false q]; simp
      · refine Evx.ite (fun q => Evx.now ?_) (fun q => Evx.now ?_)
        · rw [if_pos h3, decide_eq_true q]; simp
        · rw [if_pos h3, decide_eq_false q]; simp
      · refine Evx.now ?_
        rw [if_neg h3, if_neg h1, if_neg h2]; simp
    · rw [decide_eq_false c]
      exact Evx.step (fun k => by rw [spec_NameOk.j0]) (Evx.pos (by simp) (Evx.now (by simp)))
  · have h : r1 = false := by simpa using h
    rw [h]
    exact Evx.step (fun k => by rw [spec_NameOk.j0]) (Evx.pos (by simp) (Evx.now (by simp)))
theorem impl_name_x {t al : ByteArray} (k a tm : Int) (ht : (t.size : Int) ≤ 1000000000) (hal : (al.size : Int) ≤ 1000000000) : Evx (fun n => impl_NameOk.f n t k a al tm) (fun r => r = NameR t k a al tm) := by
  unfold impl_NameOk.f
  simp only [impl_in_eq, Option.bind_some]
  refine Evx.bind (impl_text_x ht) fun r1 e1 => ?_
  unfold NameR
  rw [← e1]
  refine Evx.ite (fun h => ?_) (fun h => ?_)
  · rw [h]
    by_cases c : 1 ≤ tm ∧ tm ≤ 50
    · rw [decide_eq_true c]
      refine Evx.step (fun k => by rw [impl_NameOk.j0]) (Evx.neg (by simp) ?_)
      refine Evx.ite (fun h3 => ?_) (fun h3 => Evx.ite (fun h1 => ?_) (fun h1 => Evx.ite (fun h2 => ?_) (fun h2 => ?_)))
      · refine Evx.ite (fun q => Evx.now ?_) (fun q => Evx.now ?_)
        · rw [if_pos h3, decide_eq_true q]; simp
        · rw [if_pos h3, decide_eq_false q]; simp
      · have hw : impl_word.f a = some (decide (0 ≤ a ∧ a ≤ 65535)) := by unfold impl_word.f; rw [impl_in_eq]; rfl
        rw [hw]; simp only [Option.bind_some]
        refine Evx.ite (fun q => Evx.now ?_) (fun q => Evx.now ?_)
        · rw [if_neg (by omega), if_pos h1, q]; simp
        · have q : decide (0 ≤ a ∧ a ≤ 65535) = false := by simpa using q
          rw [if_neg (by omega), if_pos h1, q]; simp
      · refine Evx.ite (fun q => ?_) (fun q => Evx.now ?_)
        · refine Evx.bind (impl_text_x hal) fun r2 e2 => Evx.now ?_
          rw [if_neg (by omega), if_neg (by omega), if_pos h2, decide_eq_true q, e2]; simp
        · rw [if_neg (by omega), if_neg (by omega), if_pos h2, decide_eq_false q]; simp
      · refine Evx.now ?_
        rw [if_neg h3, if_neg h1, if_neg h2]; simp
    · rw [decide_eq_false c]
      exact Evx.step (fun k => by rw [impl_NameOk.j0]) (Evx.pos (by simp) (Evx.now (by simp)))
  · have h : r1 = false := by simpa using h
    rw [h]
    exact Evx.step (fun k => by rw [impl_NameOk.j0]) (Evx.pos (by simp) (Evx.now (by simp)))

theorem rdOf_size {y : List ByteArray} (h : ∀ x ∈ y, x.size ≤ 13) (i : Int) : (rdOf ByteArray.empty y i).size ≤ 13 := by
  unfold rdOf
  rw [List.getD_eq_getElem?_getD]
  rcases Nat.lt_or_ge i.toNat y.length with q | q
  · rw [List.getElem?_eq_getElem q]; exact h _ (List.getElem_mem q)
  · rw [List.getElem?_eq_none q]; exact Nat.zero_le _
theorem text_x {s : List Int} (hs : Byt s) (hm : (s.length : Int) ≤ 1000000000) (n : Int) (h0 : 0 ≤ n) (h1 : n ≤ 1000000) :
    Evx (fun k => spec_l20Text.f k s n) (fun r => r.1.size ≤ 13 ∧ r.2 = n + 1) := by
  unfold spec_l20Text.f
  simp only [Option.bind_some]
  refine Evx.bind (pick_x hs hm _ _ h0 (by omega)) fun r1 p1 => ?_
  obtain ⟨e1, a1, b1, _⟩ := p1
  have b1 := b1 (by omega)
  exact Evx.pos a1 (Evx.pos b1 (Evx.now ⟨rdOf_size (by decide +kernel) _, e1⟩))
/-- What a name that was drawn is like. -/
def Nmd (n : Int) (r : ByteArray × Int × Int × ByteArray × Int × Int) : Prop := r.1.size ≤ 13 ∧ r.2.2.2.1.size ≤ 13 ∧ n ≤ r.2.2.2.2.2 ∧ r.2.2.2.2.2 ≤ n + 10
theorem name_j {s : List Int} (hs : Byt s) (hm : (s.length : Int) ≤ 1000000000) (n a : Int) (h0 : 0 ≤ n) (h1 : n ≤ 1000000) {t al : ByteArray} (ht : t.size ≤ 13) (ha : al.size ≤ 13) (k ad tm : Int) :
    Evx (fun f => spec_l20Name.j0 f a s n t k ad al tm) (fun r => r.1.size ≤ 13 ∧ r.2.2.2.1.size ≤ 13 ∧ n ≤ r.2.2.2.2.2 ∧ r.2.2.2.2.2 ≤ n + 3) := by
  refine Evx.step (fun k => by rw [spec_l20Name.j0]) ?_
  refine Evx.bind (odd_x hs hm _ _ h0 (by omega)) fun r1 p1 => ?_
  obtain ⟨n1, m1⟩ := p1
  refine Evx.ite (fun _ => ?_) (fun _ => Evx.now ⟨ht, ha, n1, by show r1.2 ≤ n + 3; omega⟩)
  refine Evx.bind (pick_x hs hm _ _ (by omega) (by omega)) fun r2 p2 => ?_
  obtain ⟨e2, a2, b2, _⟩ := p2
  refine Evx.ite (fun _ => ?_) (fun _ => Evx.ite (fun _ => ?_) (fun _ => Evx.ite (fun _ => ?_) (fun _ => ?_)))
  · simp only [Option.bind_some]
    refine Evx.bind (pick_x hs hm _ _ (by omega) (by omega)) fun r3 p3 => ?_
    obtain ⟨e3, a3, b3, _⟩ := p3
    have b3 := b3 (by omega)
    exact Evx.pos a3 (Evx.pos b3 (Evx.now ⟨rdOf_size (by decide +kernel) _, ha, by show n ≤ r3.2; omega, by show r3.2 ≤ n + 3; omega⟩))
  · refine Evx.bind (pick_x hs hm _ _ (by omega) (by omega)) fun r3 p3 => ?_
    obtain ⟨e3, a3, b3, _⟩ := p3
    exact Evx.now ⟨ht, ha, by show n ≤ r3.2; omega, by show r3.2 ≤ n + 3; omega⟩
  · refine Evx.bind (pick_x hs hm _ _ (by omega) (by omega)) fun r3 p3 => ?_
    obtain ⟨e3, a3, b3, _⟩ := p3
    exact Evx.now ⟨ht, ha, by show n ≤ r3.2; omega, by show r3.2 ≤ n + 3; omega⟩
  · exact Evx.now ⟨ht, by show (3 : Nat) ≤ 13; omega, by show n ≤ r2.2; omega, by show r2.2 ≤ n + 3; omega⟩
theorem name_x {s : List Int} (hs : Byt s) (hm : (s.length : Int) ≤ 1000000000) (n a : Int) (h0 : 0 ≤ n) (h1 : n ≤ 100000) :
    Evx (fun k => spec_l20Name.f k s n a) (Nmd n) := by
  unfold spec_l20Name.f
  refine Evx.bind (text_x hs hm _ h0 (by omega)) fun r1 p1 => ?_
  obtain ⟨s1, e1⟩ := p1
  refine Evx.bind (pick_x hs hm _ _ (by omega) (by omega)) fun r2 p2 => ?_
  obtain ⟨e2, a2, b2, _⟩ := p2
  refine Evx.bind (pick_x hs hm _ _ (by omega) (by omega)) fun r3 p3 => ?_
  obtain ⟨e3, a3, b3, _⟩ := p3
  refine Evx.bind (pick_x hs hm _ _ (by omega) (by omega)) fun r4 p4 => ?_
  obtain ⟨e4, a4, b4, _⟩ := p4
  refine Evx.ite (fun _ => ?_) (fun _ => ?_)
  · refine Evx.bind (text_x hs hm _ (by omega) (by omega)) fun r5 p5 => ?_
    obtain ⟨s5, e5⟩ := p5
    exact (name_j hs hm _ _ (by omega) (by omega) s1 s5 _ _ _).mono fun r hr => ⟨hr.1, hr.2.1, by omega, by omega⟩
  · exact (name_j hs hm _ _ (by omega) (by omega) s1 (by show (0 : Nat) ≤ 13; omega) _ _ _).mono fun r hr => ⟨hr.1, hr.2.1, by omega, by omega⟩

/-- The sizes of a name. -/
def Szd (x : S26) : Prop := (x.f0.size : Int) ≤ 1000000000 ∧ (x.f3.size : Int) ≤ 1000000000
theorem szd_rd {l : List S26} (h : ∀ x ∈ l, Szd x) {i : Int} (i0 : 0 ≤ i) (i1 : i < l.length) : Szd (rd_T26 l i) := by
  unfold rd_T26
  try unfold rdOf
  rw [List.getD_eq_getElem?_getD, List.getElem?_eq_getElem (show i.toNat < l.length by omega)]
  exact h _ (List.getElem_mem _)
theorem rdT_take {l : List S26} {i : Int} {k : Nat} (i0 : 0 ≤ i) (i1 : i < k) : rd_T26 (l.take k) i = rd_T26 l i := by
  unfold rd_T26
  try unfold rdOf
  rw [List.getD_eq_getElem?_getD, List.getD_eq_getElem?_getD, List.getElem?_take, if_pos (by omega)]
/-- The name at a place. -/
def NmR (x : S26) : Bool := NameR x.f0 x.f1 x.f2 x.f3 x.f4
/-- Names from a place on. -/
def NamesF (l : List S26) : Nat → Int → Bool
  | 0, _ => decide ((l.length : Int) ≤ 8)
  | d + 1, i => if NmR (rd_T26 l i) = true then (if (rd_T26 l i).f1 = 0 then false else if i > 0 then (if Op.bytesLess (rd_T26 l (i - 1)).f0.toList (rd_T26 l i).f0.toList = true then NamesF l d (i + 1) else false) else NamesF l d (i + 1)) else false
/-- Whether names are ok. -/
def NamesR (l : List S26) : Bool := NamesF l l.length 0
theorem spec_names_l {l : List S26} (hl : (l.length : Int) ≤ 100000000) (hs : ∀ x ∈ l, Szd x) (d : Nat) : ∀ i : Int, 0 ≤ i → i ≤ l.length → l.length - i = d → Evx (fun k => spec_NamesOk.l0 k l i) (fun r => r = NamesF l d i) := by
  induction d with
  | zero =>
    intro i i0 i1 hd
    refine Evx.step (fun k => by rw [spec_NamesOk.l0]) ?_
    exact Evx.neg (by omega) (Evx.now rfl)
  | succ d ih =>
    intro i i0 i1 hd
    have e : wrap64 (i + 1) = i + 1 := by unfold wrap64; omega
    have e1 : wrap64 (i - 1) = i - 1 := by unfold wrap64; omega
    have hz := szd_rd hs i0 (by omega : i < l.length)
    refine Evx.step (fun k => by rw [spec_NamesOk.l0]) (Evx.pos (by omega) (Evx.pos i0 ?_))
    refine Evx.bind (spec_name_x _ _ _ hz.1 hz.2) fun r1 hr => ?_
    rw [e, e1]
    unfold NamesF NmR
    rw [← hr]
    refine Evx.ite (fun h => ?_) (fun h => ?_)
    · rw [if_pos h]
      refine Evx.ite (fun h => ?_) (fun h => ?_)
      · rw [if_pos h]; exact Evx.now rfl
      · rw [if_neg h]
        refine Evx.ite (fun h => ?_) (fun h => ?_)
        · rw [if_pos h]
          refine Evx.pos (by omega) (Evx.pos (by omega) ?_)
          refine Evx.ite (fun h => ?_) (fun h => ?_)
          · rw [if_pos h]; exact ih _ (by omega) (by omega) (by omega)
          · rw [if_neg h]; exact Evx.now rfl
        · rw [if_neg h]; exact ih _ (by omega) (by omega) (by omega)
    · rw [if_neg h]; exact Evx.now rfl
theorem spec_names_x {l : List S26} (hl : (l.length : Int) ≤ 100000000) (hs : ∀ x ∈ l, Szd x) : Evx (fun k => spec_NamesOk.f k l) (fun r => r = NamesR l) := by
  unfold spec_NamesOk.f NamesR
  exact spec_names_l hl hs l.length 0 (by omega) (by omega) (by omega)

theorem impl_names_l {l : List S26} (hl : (l.length : Int) ≤ 100000000) (hs : ∀ x ∈ l, Szd x) (d : Nat) : ∀ i : Int, 0 ≤ i → i ≤ l.length → l.length - i = d → Evx (fun k => impl_NamesOk.l0 k l l (l.length : Int) i) (fun r => r = NamesF l d i) := by
  induction d with
  | zero =>
    intro i i0 i1 hd
    refine Evx.step (fun k => by rw [impl_NamesOk.l0]) ?_
    exact Evx.neg (by omega) (Evx.now rfl)
  | succ d ih =>
    intro i i0 i1 hd
    have e : wrap64 (i + 1) = i + 1 := by unfold wrap64; omega
    have e1 : wrap64 (i - 1) = i - 1 := by unfold wrap64; omega
    have hz := szd_rd hs i0 (by omega : i < l.length)
    refine Evx.step (fun k => by rw [impl_NamesOk.l0]) (Evx.pos (by omega) (Evx.pos i0 (Evx.pos (by omega) ?_)))
    refine Evx.bind (impl_name_x _ _ _ hz.1 hz.2) fun r1 hr => ?_
    rw [e, e1]
    unfold NamesF NmR
    rw [← hr]
    refine Evx.ite (fun h => ?_) (fun h => ?_)
    · rw [if_pos h]
      refine Evx.ite (fun h => ?_) (fun h => ?_)
      · rw [if_pos h]; exact Evx.now rfl
      · rw [if_neg h]
        refine Evx.ite (fun h => ?_) (fun h => ?_)
        · rw [if_pos h]
          refine Evx.pos (by omega) (Evx.pos (by omega) ?_)
          refine Evx.ite (fun h => ?_) (fun h => ?_)
          · rw [if_pos h]; exact ih _ (by omega) (by omega) (by omega)
          · rw [if_neg h]; exact Evx.now rfl
        · rw [if_neg h]; exact ih _ (by omega) (by omega) (by omega)
    · rw [if_neg h]; exact Evx.now rfl
theorem impl_names_x {l : List S26} (hl : (l.length : Int) ≤ 100000000) (hs : ∀ x ∈ l, Szd x) : Evx (fun k => impl_NamesOk.f k l) (fun r => r = NamesR l) := by
  unfold impl_NamesOk.f NamesR
  exact impl_names_l hl hs l.length 0 (by omega) (by omega) (by omega)

/-- What holds of the name at a place among ok names. -/
def NmAt (l : List S26) (i : Int) : Prop := NmR (rd_T26 l i) = true ∧ (rd_T26 l i).f1 ≠ 0 ∧ (i > 0 → Op.bytesLess (rd_T26 l (i - 1)).f0.toList (rd_T26 l i).f0.toList = true)
theorem namesF_iff (l : List S26) (d : Nat) : ∀ i : Int, NamesF l d i = true ↔ (∀ j : Int, i ≤ j → j < i + d → NmAt l j) ∧ (l.length : Int) ≤ 8 := by
  induction d with
  | zero =>
    intro i
    unfold NamesF
    constructor
    · intro h; exact ⟨fun j h1 h2 => by omega, of_decide_eq_true h⟩
    · intro h; exact decide_eq_true h.2
  | succ d ih =>
    intro i
    unfold NamesF
    constructor
    · intro h
      have hn : NmAt l i ∧ NamesF l d (i + 1) = true := by
        by_cases c1 : NmR (rd_T26 l i) = true
        · rw [if_pos c1] at h
          by_cases c2 : (rd_T26 l i).f1 = 0
          · rw [if_pos c2] at h; exact absurd h (by simp)
          · rw [if_neg c2] at h
            by_cases c3 : i > 0
            · rw [if_pos c3] at h
              by_cases c4 : Op.bytesLess (rd_T26 l (i - 1)).f0.toList (rd_T26 l i).f0.toList = true
              · rw [if_pos c4] at h; exact ⟨⟨c1, c2, fun _ => c4⟩, h⟩
              · rw [if_neg c4] at h; exact absurd h (by simp)
            · rw [if_neg c3] at h; exact ⟨⟨c1, c2, fun q => absurd q c3⟩, h⟩
        · rw [if_neg c1] at h; exact absurd h (by simp)
      have h2 := (ih (i + 1)).1 hn.2
      refine ⟨fun j h3 h4 => ?_, h2.2⟩
      by_cases e : j = i
      · rw [e]; exact hn.1
      · exact h2.1 j (by omega) (by omega)
    · intro h
      have h1 := h.1 i (by omega) (by omega)
      have h2 := (ih (i + 1)).2 ⟨fun j h3 h4 => h.1 j (by omega) (by omega), h.2⟩
      rw [if_pos h1.1, if_neg h1.2.1]
      by_cases c3 : i > 0
      · rw [if_pos c3, if_pos (h1.2.2 c3)]; exact h2
      · rw [if_neg c3]; exact h2
theorem names_take {l : List S26} (h : NamesR l = true) (k : Nat) (hk : k ≤ l.length) : NamesR (l.take k) = true := by
  have h1 := (namesF_iff l l.length 0).1 h
  have hl : (l.take k).length = k := by rw [List.length_take]; omega
  refine (namesF_iff (l.take k) (l.take k).length 0).2 ⟨fun j j0 j1 => ?_, by omega⟩
  have h2 := h1.1 j j0 (by omega)
  unfold NmAt at h2 ⊢
  rw [rdT_take j0 (by omega)]
  refine ⟨h2.1, h2.2.1, fun q => ?_⟩
  rw [rdT_take (by omega) (by omega)]
  exact h2.2.2 q

/-- What names that were drawn are like. -/
def Nms (n m : Int) (r : List S26 × Int) : Prop := (∀ x ∈ r.1, Szd x) ∧ (r.1.length : Int) ≤ 8 ∧ n ≤ r.2 ∧ r.2 ≤ m
theorem szd_snoc {l : List S26} (h : ∀ x ∈ l, Szd x) {x : S26} (hx : x.f0.size ≤ 13) (hy : x.f3.size ≤ 13) : ∀ y ∈ l ++ [x], Szd y := by
  intro y q
  rcases List.mem_append.1 q with q | q
  · exact h y q
  · rw [List.mem_singleton] at q; subst q; exact ⟨by omega, by omega⟩
theorem names_l {s : List Int} (hs : Byt s) (hm : (s.length : Int) ≤ 1000000000) (a : Int) {y : List ByteArray} (hy : ∀ x ∈ y, x.size ≤ 13) (hy7 : y.length = 7) (d : Nat) : ∀ (o : List S26) (i n : Int), (∀ x ∈ o, Szd x) → 0 ≤ i → i ≤ 7 → 7 - i = d → (o.length : Int) ≤ i → 0 ≤ n → n + 20 * d ≤ 10000 →
    Evx (fun k => spec_l20Names.l0 k a o y 7 i s n) (Nms n (n + 20 * d + 20)) := by
  induction d with
  | zero =>
    intro o i n ho i0 i1 hd hol n0 n1
    refine Evx.step (fun k => by rw [spec_l20Names.l0]) (Evx.neg (by omega) ?_)
    refine Evx.bind (odd_x hs hm _ _ n0 (by omega)) fun r1 p1 => ?_
    obtain ⟨e1, e2⟩ := p1
    refine Evx.ite (fun _ => ?_) (fun _ => Evx.now ⟨ho, by show (o.length : Int) ≤ 8; omega, e1, by show r1.2 ≤ _; omega⟩)
    refine Evx.bind (name_x hs hm _ _ (by omega) (by omega)) fun r2 p2 => ?_
    obtain ⟨q1, q2, q3, q4⟩ := p2
    refine Evx.pos (by omega) (Evx.now ⟨szd_snoc ho q1 q2, ?_, ?_, ?_⟩)
    · show ((o ++ [_]).length : Int) ≤ 8; simp; omega
    · show n ≤ r2.2.2.2.2.2; omega
    · show r2.2.2.2.2.2 ≤ _; omega
  | succ d ih =>
    intro o i n ho i0 i1 hd hol n0 n1
    have e : wrap64 (i + 1) = i + 1 := by unfold wrap64; omega
    refine Evx.step (fun k => by rw [spec_l20Names.l0]) (Evx.pos (by omega) (Evx.pos i0 (Evx.pos (by omega) ?_)))
    rw [e]
    refine Evx.bind (pick_x hs hm _ _ (by omega) (by omega)) fun r1 p1 => ?_
    obtain ⟨e1, a1, b1, _⟩ := p1
    refine Evx.ite (fun _ => ?_) (fun _ => ?_)
    · refine Evx.bind (name_x hs hm _ _ (by omega) (by omega)) fun r2 p2 => ?_
      obtain ⟨q1, q2, q3, q4⟩ := p2
      refine Evx.pos (by omega) ((ih _ _ _ (szd_snoc ho (rdOf_size hy _) q2) (by omega) (by omega) (by omega) (by simp; omega) (by omega) (by omega)).mono fun r hr => ⟨hr.1, hr.2.1, by have := hr.2.2.1; omega, by have := hr.2.2.2; omega⟩)
    · exact (ih _ _ _ ho (by omega) (by omega) (by omega) (by omega) (by omega) (by omega)).mono fun r hr => ⟨hr.1, hr.2.1, by have := hr.2.2.1; omega, by have := hr.2.2.2; omega⟩
theorem names_x {s : List Int} (hs : Byt s) (hm : (s.length : Int) ≤ 1000000000) (a : Int) (n : Int) (h0 : 0 ≤ n) (h1 : n ≤ 9000) : Evx (fun k => spec_l20Names.f k s n a) (fun r => (∀ x ∈ r.1, Szd x) ∧ (r.1.length : Int) ≤ 8 ∧ n ≤ r.2 ∧ r.2 ≤ n + 160) := by
  unfold spec_l20Names.f
  simp only [Option.bind_some]
  refine (names_l hs (by omega) a (by decide +kernel) rfl 7 [] 0 n (by simp) (by omega) (by omega) (by omega) (by simp) (by omega) (by omega)).mono fun r1 p1 => ⟨p1.1, p1.2.1, p1.2.2.1, ?_⟩
  have := p1.2.2.2; omega

/-- What a text stands for among names, from a place on. -/
def AskF (l : List S26) (s : ByteArray) : Nat → Int → ByteArray × Int × Int × ByteArray × Int
  | 0, _ => (s, 0, 0, (⟨#[]⟩ : ByteArray), 5)
  | d + 1, i => if (rd_T26 l i).f0.toList = s.toList then ((rd_T26 l i).f0, (rd_T26 l i).f1, (rd_T26 l i).f2, (rd_T26 l i).f3, (rd_T26 l i).f4) else AskF l s d (i + 1)
/-- What a text stands for among names. -/
def AskR (l : List S26) (s : ByteArray) : ByteArray × Int × Int × ByteArray × Int := AskF l s l.length 0
/-- The same with whether the names and the text are ok. -/
def NameAskR (l : List S26) (s : ByteArray) : ByteArray × Int × Int × ByteArray × Int × Bool :=
  if NamesR l = true ∧ TextR s = true then ((AskR l s).1, (AskR l s).2.1, (AskR l s).2.2.1, (AskR l s).2.2.2.1, (AskR l s).2.2.2.2, true) else ((⟨#[]⟩ : ByteArray), 0, 0, (⟨#[]⟩ : ByteArray), 0, false)

theorem impl_ask_l {l : List S26} (hl : (l.length : Int) ≤ 100000000) (s : ByteArray) (d : Nat) : ∀ i : Int, 0 ≤ i → i ≤ l.length → l.length - i = d → Evx (fun k => impl_ask.l0 k l s i) (fun r => r = AskF l s d i) := by
  induction d with
  | zero =>
    intro i i0 i1 hd
    refine Evx.step (fun k => by rw [impl_ask.l0]) ?_
    exact Evx.neg (by omega) (Evx.now rfl)
  | succ d ih =>
    intro i i0 i1 hd
    have e : wrap64 (i + 1) = i + 1 := by unfold wrap64; omega
    refine Evx.step (fun k => by rw [impl_ask.l0]) (Evx.pos (by omega) (Evx.pos i0 ?_))
    rw [e]
    unfold AskF
    refine Evx.ite (fun h => ?_) (fun h => ?_)
    · rw [if_pos h]; exact Evx.now rfl
    · rw [if_neg h]; exact ih _ (by omega) (by omega) (by omega)
theorem impl_ask_x {l : List S26} (hl : (l.length : Int) ≤ 100000000) (s : ByteArray) : Evx (fun k => impl_ask.f k l s) (fun r => r = AskR l s) := by
  unfold impl_ask.f AskR
  exact impl_ask_l hl s l.length 0 (by omega) (by omega) (by omega)

theorem spec_ask_l {l : List S26} (hl : (l.length : Int) ≤ 100000000) (s : ByteArray) (d : Nat) : ∀ i : Int, 0 ≤ i → i ≤ l.length → l.length - i = d → Evx (fun k => spec_NameAsk.l0 k l s i) (fun r => r = ((AskF l s d i).1, (AskF l s d i).2.1, (AskF l s d i).2.2.1, (AskF l s d i).2.2.2.1, (AskF l s d i).2.2.2.2, true)) := by
  induction d with
  | zero =>
    intro i i0 i1 hd
    refine Evx.step (fun k => by rw [spec_NameAsk.l0]) ?_
    exact Evx.neg (by omega) (Evx.now rfl)
  | succ d ih =>
    intro i i0 i1 hd
    have e : wrap64 (i + 1) = i + 1 := by unfold wrap64; omega
    refine Evx.step (fun k => by rw [spec_NameAsk.l0]) (Evx.pos (by omega) (Evx.pos i0 ?_))
    rw [e]
    unfold AskF
    refine Evx.ite (fun h => ?_) (fun h => ?_)
    · rw [if_pos h]; exact Evx.now rfl
    · rw [if_neg h]; exact ih _ (by omega) (by omega) (by omega)
theorem spec_nameask_x {l : List S26} (hl : (l.length : Int) ≤ 100000000) (hs : ∀ x ∈ l, Szd x) {s : ByteArray} (ht : (s.size : Int) ≤ 1000000000) : Evx (fun k => spec_NameAsk.f k l s) (fun r => r = NameAskR l s) := by
  unfold spec_NameAsk.f NameAskR
  refine Evx.bind (spec_names_x hl hs) fun r1 e1 => ?_
  rw [← e1]
  refine Evx.ite (fun h1 => ?_) (fun h1 => ?_)
  · refine Evx.bind (spec_text_x ht) fun r2 e2 => ?_
    rw [← e2]
    refine Evx.step (fun k => by rw [spec_NameAsk.j0]) (Evx.ite (fun h2 => ?_) (fun h2 => ?_))
    · rw [if_neg (fun h => by simp [h.2] at h2)]; exact Evx.now rfl
    · rw [if_pos ⟨h1, by simpa using h2⟩]
      exact spec_ask_l hl s l.length 0 (by omega) (by omega) (by omega)
  · rw [if_neg (fun h => h1 h.1)]
    exact Evx.step (fun k => by rw [spec_NameAsk.j0]) (Evx.pos rfl (Evx.now rfl))

theorem askF_or {l : List S26} {s : ByteArray} (d : Nat) : ∀ i : Int, (∃ j : Int, i ≤ j ∧ j < i + d ∧ (rd_T26 l j).f0.toList = s.toList ∧ AskF l s d i = ((rd_T26 l j).f0, (rd_T26 l j).f1, (rd_T26 l j).f2, (rd_T26 l j).f3, (rd_T26 l j).f4)) ∨ AskF l s d i = (s, 0, 0, (⟨#[]⟩ : ByteArray), 5) := by
  induction d with
  | zero => intro i; exact .inr rfl
  | succ d ih =>
    intro i
    unfold AskF
    by_cases h : (rd_T26 l i).f0.toList = s.toList
    · rw [if_pos h]; exact .inl ⟨i, by omega, by omega, h, rfl⟩
    · rw [if_neg h]
      rcases ih (i + 1) with ⟨j, h1, h2, h3⟩ | h1
      · exact .inl ⟨j, by omega, by omega, h3⟩
      · exact .inr h1
theorem empty_nil : ((⟨#[]⟩ : ByteArray).toList == ([] : List UInt8)) = true := by decide +kernel
theorem ask_ok {l : List S26} (hs : ∀ x ∈ l, Szd x) {s : ByteArray} (ht : (s.size : Int) ≤ 1000000000) (h1 : NamesR l = true) (h2 : TextR s = true) :
    NameR (AskR l s).1 (AskR l s).2.1 (AskR l s).2.2.1 (AskR l s).2.2.2.1 (AskR l s).2.2.2.2 = true ∧ (AskR l s).1.toList = s.toList ∧ ((AskR l s).1.size : Int) ≤ 1000000000 ∧ ((AskR l s).2.2.2.1.size : Int) ≤ 1000000000 := by
  have hn := (namesF_iff l l.length 0).1 h1
  unfold AskR
  rcases askF_or (l := l) (s := s) l.length 0 with ⟨j, j0, j1, hj, he⟩ | he
  · rw [he]
    have hz := szd_rd hs j0 (by omega)
    exact ⟨(hn.1 j (by omega) (by omega)).1, hj, hz.1, hz.2⟩
  · rw [he]
    refine ⟨?_, rfl, ht, by show ((0 : Nat) : Int) ≤ 1000000000; omega⟩
    unfold NameR
    rw [h2, if_pos rfl, empty_nil]; rfl
theorem nameask_no {l : List S26} {s : ByteArray} (h : ¬ (NamesR l = true ∧ TextR s = true)) : NameAskR l s = ((⟨#[]⟩ : ByteArray), 0, 0, (⟨#[]⟩ : ByteArray), 0, false) := by unfold NameAskR; rw [if_neg h]
theorem nameask_yes {l : List S26} {s : ByteArray} (h : NamesR l = true ∧ TextR s = true) : NameAskR l s = ((AskR l s).1, (AskR l s).2.1, (AskR l s).2.2.1, (AskR l s).2.2.2.1, (AskR l s).2.2.2.2, true) := by unfold NameAskR; rw [if_pos h]

/-- What a text stands for, followed at most d times. -/
def FindF (l : List S26) : Nat → ByteArray → Int × Bool
  | 0, _ => (0, false)
  | d + 1, s => if (AskR l s).2.1 = 1 then ((AskR l s).2.2.1, true) else if (AskR l s).2.1 = 0 then (0, false) else FindF l d (AskR l s).2.2.2.1
/-- The address for which a text stands. -/
def NameFindR (l : List S26) (s : ByteArray) : Int × Bool := if NamesR l = true ∧ TextR s = true then FindF l 5 s else (0, false)
theorem ask_alias {l : List S26} (hs : ∀ x ∈ l, Szd x) {s : ByteArray} (ht : (s.size : Int) ≤ 1000000000) (h1 : NamesR l = true) (h2 : TextR s = true) (k1 : (AskR l s).2.1 ≠ 1) (k0 : (AskR l s).2.1 ≠ 0) : TextR (AskR l s).2.2.2.1 = true ∧ ((AskR l s).2.2.2.1.size : Int) ≤ 1000000000 := by
  obtain ⟨a1, a2, a3, a4⟩ := ask_ok hs ht h1 h2
  refine ⟨?_, a4⟩
  unfold NameR at a1
  rw [if_neg k0, if_neg k1] at a1
  by_cases c : (AskR l s).2.1 = 2
  · rw [if_pos c] at a1
    simp only [Bool.and_eq_true] at a1
    exact a1.2.2
  · rw [if_neg c] at a1
    simp at a1
theorem find_more {l : List S26} (d : Nat) : ∀ (s : ByteArray) (a : Int), FindF l d s = (a, true) → FindF l (d + 1) s = (a, true) := by
  induction d with
  | zero => intro s a h; unfold FindF at h; simp at h
  | succ d ih =>
    intro s a h
    unfold FindF at h ⊢
    by_cases c1 : (AskR l s).2.1 = 1
    · rw [if_pos c1] at h ⊢; exact h
    · rw [if_neg c1] at h ⊢
      by_cases c2 : (AskR l s).2.1 = 0
      · rw [if_pos c2] at h ⊢; exact h
      · rw [if_neg c2] at h ⊢; exact ih _ _ h
theorem impl_find_l {l : List S26} (hl : (l.length : Int) ≤ 100000000) (d : Nat) : ∀ (s : ByteArray) (i : Int), 0 ≤ i → i ≤ 5 → 5 - i = d → Evx (fun k => impl_NameFind.l0 k l s i) (fun r => r = FindF l d s) := by
  induction d with
  | zero =>
    intro s i i0 i1 hd
    refine Evx.step (fun k => by rw [impl_NameFind.l0]) ?_
    exact Evx.neg (by omega) (Evx.now rfl)
  | succ d ih =>
    intro s i i0 i1 hd
    have e : wrap64 (i + 1) = i + 1 := by unfold wrap64; omega
    refine Evx.step (fun k => by rw [impl_NameFind.l0]) (Evx.pos (by omega) ?_)
    rw [e]
    refine Evx.bind (impl_ask_x hl s) fun r1 e1 => ?_
    subst e1
    unfold FindF
    refine Evx.ite (fun c => ?_) (fun c => ?_)
    · rw [if_pos c]; exact Evx.now rfl
    · rw [if_neg c]
      refine Evx.ite (fun c => ?_) (fun c => ?_)
      · rw [if_pos c]; exact Evx.now rfl
      · rw [if_neg c]; exact ih _ _ (by omega) (by omega) (by omega)
theorem impl_find_x {l : List S26} (hl : (l.length : Int) ≤ 100000000) (hs : ∀ x ∈ l, Szd x) {s : ByteArray} (ht : (s.size : Int) ≤ 1000000000) : Evx (fun k => impl_NameFind.f k l s) (fun r => r = NameFindR l s) := by
  unfold impl_NameFind.f NameFindR
  refine Evx.bind (impl_names_x hl hs) fun r1 e1 => ?_
  rw [← e1]
  refine Evx.ite (fun h1 => ?_) (fun h1 => ?_)
  · refine Evx.bind (impl_text_x ht) fun r2 e2 => ?_
    rw [← e2]
    refine Evx.step (fun k => by rw [impl_NameFind.j0]) (Evx.ite (fun h2 => ?_) (fun h2 => ?_))
    · rw [if_neg (fun h => by simp [h.2] at h2)]; exact Evx.now rfl
    · rw [if_pos ⟨h1, by simpa using h2⟩]
      exact impl_find_l hl 5 s 0 (by omega) (by omega) (by omega)
  · rw [if_neg (fun h => h1 h.1)]
    exact Evx.step (fun k => by rw [impl_NameFind.j0]) (Evx.pos rfl (Evx.now rfl))

theorem bl_loop (b : ByteArray) (d : Nat) : ∀ (i : Nat) (r : List UInt8), b.size - i = d → ByteArray.toList.loop b i r = r.reverse ++ b.data.toList.drop i := by
  induction d with
  | zero =>
    intro i r h
    unfold ByteArray.toList.loop
    have hs : b.data.toList.length = b.size := by rw [Array.length_toList]; rfl
    rw [if_neg (by omega), List.drop_of_length_le (by omega), List.append_nil]
  | succ d ih =>
    intro i r h
    have hs : b.data.toList.length = b.size := by rw [Array.length_toList]; rfl
    unfold ByteArray.toList.loop
    rw [if_pos (by omega), ih (i + 1) _ (by omega), List.reverse_cons, List.append_assoc, List.drop_eq_getElem_cons (by omega : i < b.data.toList.length)]
    have hg : b.get! i = b.data.toList[i]'(by omega) := by
      unfold ByteArray.get!
      rw [Array.getElem_toList]
      exact getElem!_pos b.data i (by rw [Array.length_toList] at hs; omega)
    rw [hg]; rfl
theorem bl_inj {a b : ByteArray} (h : a.toList = b.toList) : a = b := by
  have h2 : a.data.toList = b.data.toList := by
    have e1 := bl_loop a a.size 0 [] (by omega)
    have e2 := bl_loop b b.size 0 [] (by omega)
    have h3 : ByteArray.toList.loop a 0 [] = ByteArray.toList.loop b 0 [] := h
    rw [e1, e2] at h3
    simpa using h3
  obtain ⟨x⟩ := a
  obtain ⟨y⟩ := b
  congr 1
  exact Array.toList_inj.1 h2

theorem szdk_rd {l : List S83} (h : ∀ x ∈ l, Szd x.f0) {i : Int} (i0 : 0 ≤ i) (i1 : i < l.length) : Szd (rd_T83 l i).f0 := by
  unfold rd_T83
  try unfold rdOf
  rw [List.getD_eq_getElem?_getD, List.getElem?_eq_getElem (show i.toNat < l.length by omega)]
  exact h _ (List.getElem_mem _)
theorem rdK_take {l : List S83} {i : Int} {k : Nat} (i0 : 0 ≤ i) (i1 : i < k) : rd_T83 (l.take k) i = rd_T83 l i := by
  unfold rd_T83
  try unfold rdOf
  rw [List.getD_eq_getElem?_getD, List.getD_eq_getElem?_getD, List.getElem?_take, if_pos (by omega)]
/-- The first place of a text among what is kept, from a place on; -1 where it is not. -/
def AtF (l : List S83) (s : ByteArray) : Nat → Int → Int
  | 0, _ => -1
  | d + 1, i => if (rd_T83 l i).f0.f0.toList = s.toList then i else AtF l s d (i + 1)
theorem AtF_take {l : List S83} {s : ByteArray} {k : Nat} (d : Nat) : ∀ i : Int, 0 ≤ i → i + d ≤ k → AtF (l.take k) s d i = AtF l s d i := by
  induction d with
  | zero => intro i _ _; rfl
  | succ d ih =>
    intro i i0 h
    unfold AtF
    rw [rdK_take i0 (by omega), ih (i + 1) (by omega) (by omega)]
/-- What is kept, from a place on. -/
def KeptF (l : List S83) : Nat → Int → Bool
  | 0, _ => decide ((l.length : Int) ≤ 5)
  | d + 1, i => if NmR (rd_T83 l i).f0 = true then (if 0 ≤ (rd_T83 l i).f1 ∧ (rd_T83 l i).f1 ≤ 1000000 then (if AtF l (rd_T83 l i).f0.f0 i.toNat 0 ≥ 0 then false else KeptF l d (i + 1)) else false) else false
/-- Whether what is kept is ok. -/
def KeptR (l : List S83) : Bool := KeptF l l.length 0

theorem spec_kept_l1 {l : List S83} {i : Int} {P : Bool → Prop} (i0 : 0 ≤ i) (i1 : i < l.length) (hl : (l.length : Int) ≤ 100000000) (d : Nat) : ∀ j : Int, 0 ≤ j → i - j = d → (AtF l (rd_T83 l i).f0.f0 d j ≥ 0 → P false) → (¬ AtF l (rd_T83 l i).f0.f0 d j ≥ 0 → Evx (fun k => spec_KeptOk.l0 k l (i + 1)) P) → Evx (fun k => spec_KeptOk.l1 k l i j) P := by
  induction d with
  | zero =>
    intro j j0 hd h1 h2
    have e : wrap64 (i + 1) = i + 1 := by unfold wrap64; omega
    refine Evx.step (fun k => by rw [spec_KeptOk.l1]) (Evx.neg (by omega) ?_)
    rw [e]
    exact h2 (by unfold AtF; omega)
  | succ d ih =>
    intro j j0 hd h1 h2
    have e : wrap64 (j + 1) = j + 1 := by unfold wrap64; omega
    unfold AtF at h1 h2
    refine Evx.step (fun k => by rw [spec_KeptOk.l1]) (Evx.pos (by omega) (Evx.pos j0 (Evx.pos (by omega) (Evx.pos i0 (Evx.pos i1 ?_)))))
    rw [e]
    refine Evx.ite (fun h => ?_) (fun h => ?_)
    · rw [if_pos h] at h1; exact Evx.now (h1 (by omega))
    · rw [if_neg h] at h1 h2; exact ih (j + 1) (by omega) (by omega) h1 h2
theorem spec_kept_l {l : List S83} (hl : (l.length : Int) ≤ 100000000) (hs : ∀ x ∈ l, Szd x.f0) (d : Nat) : ∀ i : Int, 0 ≤ i → i ≤ l.length → l.length - i = d → Evx (fun k => spec_KeptOk.l0 k l i) (fun r => r = KeptF l d i) := by
  induction d with
  | zero =>
    intro i i0 i1 hd
    refine Evx.step (fun k => by rw [spec_KeptOk.l0]) ?_
    exact Evx.neg (by omega) (Evx.now rfl)
  | succ d ih =>
    intro i i0 i1 hd
    have hz := szdk_rd hs i0 (by omega : i < l.length)
    refine Evx.step (fun k => by rw [spec_KeptOk.l0]) (Evx.pos (by omega) (Evx.pos i0 ?_))
    refine Evx.bind (spec_name_x _ _ _ hz.1 hz.2) fun r1 hr => ?_
    unfold KeptF NmR
    rw [← hr]
    refine Evx.ite (fun h => ?_) (fun h => ?_)
    · rw [if_pos h]
      simp only [spec_in_eq, Option.bind_some]
      refine Evx.step (fun k => by rw [spec_KeptOk.j1]) ?_
      by_cases c : 0 ≤ (rd_T83 l i).f1 ∧ (rd_T83 l i).f1 ≤ 1000000
      · rw [if_pos c]
        refine Evx.neg (by simp [c]) ?_
        refine spec_kept_l1 i0 (by omega) hl i.toNat 0 (by omega) (by omega) (fun q => ?_) (fun q => ?_)
        · rw [if_pos q]
        · rw [if_neg q]; exact ih (i + 1) (by omega) (by omega) (by omega)
      · rw [if_neg c]
        exact Evx.pos (by simp; omega) (Evx.now rfl)
    · rw [if_neg h]
      exact Evx.step (fun k => by rw [spec_KeptOk.j1]) (Evx.pos rfl (Evx.now rfl))
theorem spec_kept_x {l : List S83} (hl : (l.length : Int) ≤ 100000000) (hs : ∀ x ∈ l, Szd x.f0) : Evx (fun k => spec_KeptOk.f k l) (fun r => r = KeptR l) := by
  unfold spec_KeptOk.f KeptR
  exact spec_kept_l hl hs l.length 0 (by omega) (by omega) (by omega)

theorem impl_at_l {l : List S83} (hl : (l.length : Int) ≤ 100000000) (s : ByteArray) (d : Nat) : ∀ i : Int, 0 ≤ i → i ≤ l.length → l.length - i = d → Evx (fun k => impl_keptAt.l0 k l s i) (fun r => r = AtF l s d i) := by
  induction d with
  | zero =>
    intro i i0 i1 hd
    refine Evx.step (fun k => by rw [impl_keptAt.l0]) ?_
    exact Evx.neg (by omega) (Evx.now rfl)
  | succ d ih =>
    intro i i0 i1 hd
    have e : wrap64 (i + 1) = i + 1 := by unfold wrap64; omega
    refine Evx.step (fun k => by rw [impl_keptAt.l0]) (Evx.pos (by omega) (Evx.pos i0 ?_))
    rw [e]
    unfold AtF
    refine Evx.ite (fun h => ?_) (fun h => ?_)
    · rw [if_pos h]; exact Evx.now rfl
    · rw [if_neg h]; exact ih _ (by omega) (by omega) (by omega)
theorem impl_at_x {l : List S83} (hl : (l.length : Int) ≤ 100000000) (s : ByteArray) : Evx (fun k => impl_keptAt.f k l s) (fun r => r = AtF l s l.length 0) := by
  unfold impl_keptAt.f
  exact impl_at_l hl s l.length 0 (by omega) (by omega) (by omega)
theorem impl_kept_l {l : List S83} (hl : (l.length : Int) ≤ 100000000) (hs : ∀ x ∈ l, Szd x.f0) (d : Nat) : ∀ i : Int, 0 ≤ i → i ≤ l.length → l.length - i = d → Evx (fun k => impl_KeptOk.l0 k l l (l.length : Int) i) (fun r => r = KeptF l d i) := by
  induction d with
  | zero =>
    intro i i0 i1 hd
    refine Evx.step (fun k => by rw [impl_KeptOk.l0]) ?_
    exact Evx.neg (by omega) (Evx.now rfl)
  | succ d ih =>
    intro i i0 i1 hd
    have e : wrap64 (i + 1) = i + 1 := by unfold wrap64; omega
    have hz := szdk_rd hs i0 (by omega : i < l.length)
    have ht : ((l.take i.toNat).length : Int) = i := by rw [List.length_take]; omega
    refine Evx.step (fun k => by rw [impl_KeptOk.l0]) (Evx.pos (by omega) (Evx.pos i0 (Evx.pos (by omega) ?_)))
    refine Evx.bind (impl_name_x _ _ _ hz.1 hz.2) fun r1 hr => ?_
    unfold KeptF NmR
    rw [← hr]
    refine Evx.ite (fun h => ?_) (fun h => ?_)
    · rw [if_pos h]
      simp only [impl_in_eq, Option.bind_some]
      refine Evx.ite (fun c => ?_) (fun c => ?_)
      · have c' : 0 ≤ (rd_T83 l i).f1 ∧ (rd_T83 l i).f1 ≤ 1000000 := by simpa using c
        rw [if_pos c']
        refine Evx.pos (by omega) (Evx.bind (impl_at_x (by omega) _) fun r2 e2 => ?_)
        have e3 : (l.take i.toNat).length = i.toNat := by omega
        rw [e3, AtF_take i.toNat 0 (by omega) (by omega)] at e2
        rw [← e2, e]
        refine Evx.ite (fun q => ?_) (fun q => ?_)
        · rw [if_pos q]; exact Evx.now rfl
        · rw [if_neg q]; exact ih (i + 1) (by omega) (by omega) (by omega)
      · have c' : ¬ (0 ≤ (rd_T83 l i).f1 ∧ (rd_T83 l i).f1 ≤ 1000000) := by simpa using c
        rw [if_neg c']; exact Evx.now rfl
    · rw [if_neg h]; exact Evx.now rfl
theorem impl_kept_x {l : List S83} (hl : (l.length : Int) ≤ 100000000) (hs : ∀ x ∈ l, Szd x.f0) : Evx (fun k => impl_KeptOk.f k l) (fun r => r = KeptR l) := by
  unfold impl_KeptOk.f KeptR
  exact impl_kept_l hl hs l.length 0 (by omega) (by omega) (by omega)

theorem rdK_at {l : List S83} {j : Nat} (h : j < l.length) : rd_T83 l (j : Int) = l[j] := by
  unfold rd_T83
  rw [Int.toNat_natCast, List.getD_eq_getElem?_getD, List.getElem?_eq_getElem h]; rfl
theorem AtF_spec {l : List S83} {s : ByteArray} (d : Nat) : ∀ i : Nat, (∃ a : Nat, i ≤ a ∧ a < i + d ∧ AtF l s d i = a ∧ (rd_T83 l a).f0.f0 = s ∧ ∀ j : Nat, i ≤ j → j < a → (rd_T83 l j).f0.f0 ≠ s) ∨ (AtF l s d i = -1 ∧ ∀ j : Nat, i ≤ j → j < i + d → (rd_T83 l j).f0.f0 ≠ s) := by
  induction d with
  | zero => intro i; exact .inr ⟨rfl, fun j h1 h2 => by omega⟩
  | succ d ih =>
    intro i
    unfold AtF
    by_cases h : (rd_T83 l i).f0.f0.toList = s.toList
    · rw [if_pos h]; exact .inl ⟨i, by omega, by omega, rfl, bl_inj h, fun j h1 h2 => by omega⟩
    · rw [if_neg h, show (i : Int) + 1 = ((i + 1 : Nat) : Int) by omega]
      have hi : (rd_T83 l i).f0.f0 ≠ s := fun e => h (by rw [e])
      rcases ih (i + 1) with ⟨a, h1, h2, h3, h4, h5⟩ | ⟨h1, h2⟩
      · refine .inl ⟨a, by omega, by omega, h3, h4, fun j h6 h7 => ?_⟩
        by_cases e : j = i
        · rw [e]; exact hi
        · exact h5 j (by omega) h7
      · refine .inr ⟨h1, fun j h6 h7 => ?_⟩
        by_cases e : j = i
        · rw [e]; exact hi
        · exact h2 j (by omega) (by omega)
/-- What holds of one that is kept. -/
def Kp (x : S83) : Prop := NmR x.f0 = true ∧ 0 ≤ x.f1 ∧ x.f1 ≤ 1000000
/-- Two texts that differ. -/
def Df (x y : S83) : Prop := x.f0.f0 ≠ y.f0.f0
theorem keptF_iff (l : List S83) (d : Nat) : ∀ i : Nat, KeptF l d i = true ↔ (∀ j : Nat, i ≤ j → j < i + d → Kp (rd_T83 l j) ∧ ∀ q : Nat, q < j → (rd_T83 l q).f0.f0 ≠ (rd_T83 l j).f0.f0) ∧ (l.length : Int) ≤ 5 := by
  induction d with
  | zero =>
    intro i
    unfold KeptF
    constructor
    · intro h; exact ⟨fun j h1 h2 => by omega, of_decide_eq_true h⟩
    · intro h; exact decide_eq_true h.2
  | succ d ih =>
    intro i
    unfold KeptF
    have hc : (i : Int) + 1 = ((i + 1 : Nat) : Int) := by omega
    have hat := AtF_spec (l := l) (s := (rd_T83 l i).f0.f0) i 0
    rw [hc, Int.toNat_natCast]
    constructor
    · intro h
      have hn : (Kp (rd_T83 l i) ∧ ∀ q : Nat, q < i → (rd_T83 l q).f0.f0 ≠ (rd_T83 l i).f0.f0) ∧ KeptF l d ((i + 1 : Nat) : Int) = true := by
        by_cases c1 : NmR (rd_T83 l i).f0 = true
        · rw [if_pos c1] at h
          by_cases c2 : 0 ≤ (rd_T83 l i).f1 ∧ (rd_T83 l i).f1 ≤ 1000000
          · rw [if_pos c2] at h
            by_cases c3 : AtF l (rd_T83 l i).f0.f0 i 0 ≥ 0
            · rw [if_pos c3] at h; exact absurd h (by simp)
            · rw [if_neg c3] at h
              refine ⟨⟨⟨c1, c2⟩, fun q hq => ?_⟩, h⟩
              rcases hat with ⟨a, h1, h2, h3, h4, h5⟩ | ⟨h1, h2⟩
              · exact absurd (show AtF l (rd_T83 l i).f0.f0 i 0 ≥ 0 by have h3 : AtF l (rd_T83 l i).f0.f0 i 0 = a := h3; omega) c3
              · exact h2 q (by omega) (by omega)
          · rw [if_neg c2] at h; exact absurd h (by simp)
        · rw [if_neg c1] at h; exact absurd h (by simp)
      have h2 := (ih (i + 1)).1 hn.2
      refine ⟨fun j h3 h4 => ?_, h2.2⟩
      by_cases e : j = i
      · rw [e]; exact hn.1
      · exact h2.1 j (by omega) (by omega)
    · intro h
      obtain ⟨h1, h1'⟩ := h.1 i (by omega) (by omega)
      have h2 := (ih (i + 1)).2 ⟨fun j h3 h4 => h.1 j (by omega) (by omega), h.2⟩
      rw [if_pos h1.1, if_pos h1.2, if_neg, h2]
      rcases hat with ⟨a, h3, h4, h5, h6, h7⟩ | ⟨h3, h4⟩
      · exact absurd h6 (h1' a (by omega))
      · have h3 : AtF l (rd_T83 l i).f0.f0 i 0 = -1 := h3
        omega
theorem kept_iff (l : List S83) : KeptR l = true ↔ (∀ x ∈ l, Kp x) ∧ l.Pairwise Df ∧ l.length ≤ 5 := by
  unfold KeptR
  have h0 := keptF_iff l l.length 0
  rw [show (((0 : Nat) : Int)) = (0 : Int) from rfl] at h0
  rw [h0]
  constructor
  · rintro ⟨h1, h2⟩
    refine ⟨fun x hx => ?_, List.pairwise_iff_getElem.2 fun i j hi hj hij => ?_, by omega⟩
    · obtain ⟨j, hj, rfl⟩ := List.mem_iff_getElem.1 hx
      have := (h1 j (by omega) (by omega)).1
      rw [rdK_at hj] at this; exact this
    · have := (h1 j (by omega) (by omega)).2 i hij
      rw [rdK_at hj, rdK_at hi] at this; exact this
  · rintro ⟨h1, h2, h3⟩
    refine ⟨fun j _ hj => ⟨?_, fun q hq => ?_⟩, by omega⟩
    · rw [rdK_at (by omega)]; exact h1 _ (List.getElem_mem _)
    · rw [rdK_at (by omega), rdK_at (by omega)]
      exact List.pairwise_iff_getElem.1 h2 q j (by omega) (by omega) hq
/-- What a name is kept as. -/
def KeepN (n : ByteArray × Int × Int × ByteArray × Int) (now : Int) : S83 := ⟨⟨n.1, n.2.1, n.2.2.1, n.2.2.2.1, n.2.2.2.2⟩, wrap64 (now + n.2.2.2.2)⟩
/-- What is kept without the one at a place. -/
def Without (l : List S83) (a : Int) : List S83 := if a ≥ 0 then l.take a.toNat ++ l.drop (a.toNat + 1) else l
/-- The last five. -/
def Last5 (l : List S83) : List S83 := l.drop (l.length - 5)
/-- What is kept, and told, behind a text that was asked for. -/
def KeepR (l : List S83) (ns : List S26) (s : ByteArray) (now : Int) : List S83 × ByteArray × Int × Int × ByteArray × Int × Bool :=
  if AtF l s l.length 0 ≥ 0 ∧ (rd_T83 l (AtF l s l.length 0)).f1 > now then
    (l, (rd_T83 l (AtF l s l.length 0)).f0.f0, (rd_T83 l (AtF l s l.length 0)).f0.f1, (rd_T83 l (AtF l s l.length 0)).f0.f2, (rd_T83 l (AtF l s l.length 0)).f0.f3, (rd_T83 l (AtF l s l.length 0)).f0.f4, true)
  else (Last5 (Without l (AtF l s l.length 0) ++ [KeepN (AskR ns s) now]), (AskR ns s).1, (AskR ns s).2.1, (AskR ns s).2.2.1, (AskR ns s).2.2.2.1, (AskR ns s).2.2.2.2, false)
/-- Whether something can be asked. -/
def MayAsk (l : List S83) (ns : List S26) (s : ByteArray) (now : Int) : Prop := KeptR l = true ∧ (NamesR ns = true ∧ TextR s = true) ∧ (0 ≤ now ∧ now ≤ 900000)
instance (l : List S83) (ns : List S26) (s : ByteArray) (now : Int) : Decidable (MayAsk l ns s now) := by unfold MayAsk; infer_instance
def KeptAskR (l : List S83) (ns : List S26) (s : ByteArray) (now : Int) : List S83 × ByteArray × Int × Int × ByteArray × Int × Bool :=
  if MayAsk l ns s now then KeepR l ns s now else ([], (⟨#[]⟩ : ByteArray), 0, 0, (⟨#[]⟩ : ByteArray), 0, false)
theorem without_len {l : List S83} (a : Int) : (Without l a).length ≤ l.length := by
  unfold Without
  split
  · rw [List.length_append, List.length_take, List.length_drop]; omega
  · exact Nat.le_refl _

theorem Evx.sb {α β : Type} {a : α} {f : Nat → α → Option β} {P : β → Prop} (h : Evx (fun k => f k a) P) : Evx (fun k => (some a).bind (f k)) P := h

theorem Evx.sure {α : Type} {g : Nat → Option α} {P : α → Prop} (h : Evx g (fun _ => True)) (t : ∀ k r, g k = some r → P r) : Evx g P := by
  obtain ⟨r, hr, _⟩ := h
  obtain ⟨k, hk⟩ := hr.rounds
  exact ⟨r, hr, t k r hk⟩
theorem impl_clone75 {l : List S83} (hl : (l.length : Int) ≤ 100000000) : impl_Kept_75.f l = some l := by
  unfold impl_Kept_75.f
  by_cases h : (l.length : Int) = 0
  · rw [if_pos h, List.eq_nil_of_length_eq_zero (by omega : l.length = 0)]
  · rw [if_neg h]
    simp only [Option.bind_some, List.nil_append, List.length_nil]
    rw [if_pos (by omega)]
theorem impl_clone84 {l : List S83} (hl : (l.length : Int) ≤ 100000000) : impl_Kept_84.f l = some l := by
  unfold impl_Kept_84.f
  simp only [Option.bind_some, List.nil_append, List.length_nil]
  rw [if_pos (by omega)]
theorem del_ex (d : Nat) : ∀ (x : List S83) (j : Nat), (x.length : Int) ≤ 100000000 → j < x.length → x.length - j = d + 1 → Evx (fun k => impl_Kept_85.l0 k x j) (fun _ => True) := by
  induction d with
  | zero =>
    intro x j hm hj hd
    have e : wrap64 ((j : Int) + 1) = j + 1 := by unfold wrap64; omega
    have e2 : wrap64 ((x.length : Int) - 1) = x.length - 1 := by unfold wrap64; omega
    refine Evx.step (fun k => by rw [impl_Kept_85.l0]) ?_
    rw [e, e2]
    exact Evx.neg (by omega) (Evx.pos (by omega) (Evx.pos (by omega) (Evx.now trivial)))
  | succ d ih =>
    intro x j hm hj hd
    have e : wrap64 ((j : Int) + 1) = ((j + 1 : Nat) : Int) := by unfold wrap64; omega
    refine Evx.step (fun k => by rw [impl_Kept_85.l0]) ?_
    rw [e]
    exact Evx.pos (by omega) (Evx.pos (by omega) (Evx.pos (by omega) (Evx.pos (by omega) (ih _ (j + 1) (by rw [List.length_set]; exact hm) (by rw [List.length_set]; omega) (by rw [List.length_set]; omega)))))
theorem del_x {x : List S83} {j : Nat} (hm : (x.length : Int) ≤ 100000000) (hj : j < x.length) : Evx (fun k => impl_Kept_85.f k x j (wrap64 ((j : Int) + 1))) (fun r => r = Without x j) := by
  unfold impl_Kept_85.f
  refine Evx.pos rfl (Evx.step (fun k => by rw [impl_Kept_85.j0]) (Evx.pos (by omega) (Evx.pos (by omega) ?_)))
  refine Evx.sure (del_ex (x.length - j - 1) x j hm hj (by omega)) fun k r h => ?_
  rw [del_tells k x j r hj (by omega) h]
  unfold Without
  rw [if_pos (by omega), Int.toNat_natCast]
theorem last5_x {y : List S83} (hy : (y.length : Int) ≤ 1000000) (n : ByteArray × Int × Int × ByteArray × Int) : Evx (fun _ => if 0 ≤ (mx 0 (wrap64 ((y.length : Int) - 5))) then (if (mx 0 (wrap64 ((y.length : Int) - 5))) ≤ (y.length : Int) then ((impl_Kept_75.f (y.drop ((mx 0 (wrap64 ((y.length : Int) - 5))) : Int).toNat)).bind fun t298 => (some (t298, n.1, n.2.1, n.2.2.1, n.2.2.2.1, n.2.2.2.2, false))) else (none)) else (none))
    (fun r => r = (Last5 y, n.1, n.2.1, n.2.2.1, n.2.2.2.1, n.2.2.2.2, false)) := by
  have e : mx 0 (wrap64 ((y.length : Int) - 5)) = if 5 ≤ y.length then (y.length : Int) - 5 else 0 := by unfold mx wrap64; split <;> omega
  have e2 : (mx 0 (wrap64 ((y.length : Int) - 5))).toNat = y.length - 5 := by rw [e]; split <;> omega
  have e3 : 0 ≤ mx 0 (wrap64 ((y.length : Int) - 5)) ∧ mx 0 (wrap64 ((y.length : Int) - 5)) ≤ y.length := by rw [e]; split <;> omega
  refine Evx.pos e3.1 (Evx.pos e3.2 ?_)
  rw [e2, impl_clone75 (by rw [List.length_drop]; omega)]
  exact Evx.now rfl
theorem impl_keep_x {l : List S83} {ns : List S26} (hl : (l.length : Int) ≤ 1000) (hn : (ns.length : Int) ≤ 100000000) (s : ByteArray) (now : Int) : Evx (fun k => impl_keep.f k l ns s now) (fun r => r = KeepR l ns s now) := by
  unfold impl_keep.f KeepR
  refine Evx.bind (impl_at_x (by omega) s) fun t e0 => ?_
  rw [← e0]
  have hat := AtF_spec (l := l) (s := s) l.length 0
  rw [show (((0 : Nat) : Int)) = (0 : Int) from rfl, ← e0] at hat
  have hr := fun (n : ByteArray × Int × Int × ByteArray × Int) (x : List S83) (hx : (x.length : Int) ≤ 1000) => last5_x (y := x ++ [KeepN n now]) (by rw [List.length_append, List.length_singleton]; omega) n
  rcases hat with ⟨a, h1, h2, rfl, h4, h5⟩ | ⟨rfl, h2⟩
  · refine Evx.pos (by omega) (Evx.pos (by omega) (Evx.pos (by omega) (Evx.step (fun k => by rw [impl_keep.j0]) ?_)))
    by_cases c : (rd_T83 l a).f1 > now
    · rw [if_pos ⟨by omega, c⟩]
      refine Evx.pos (decide_eq_true c) ?_
      have g1 : (0 : Int) ≤ (a : Int) := by omega
      have g2 : (a : Int) < (l.length : Int) := by omega
      rw [impl_clone75 (by omega)]
      simp only [Option.bind_some, if_pos g1, if_pos g2]
      exact Evx.now rfl
    · rw [if_neg (fun q => c q.2)]
      refine Evx.neg (by simpa using c) ?_
      refine Evx.bind (impl_ask_x hn s) fun n en => ?_
      rw [impl_clone84 (by omega)]
      refine Evx.sb (Evx.pos (by omega) (Evx.bind (del_x (by omega) (by omega)) fun x ex => ?_))
      have hx : (x.length : Int) ≤ 1000 := by
        rw [ex]; unfold Without
        rw [if_pos (by omega), List.length_append, List.length_take, List.length_drop, Int.toNat_natCast]; omega
      refine Evx.pos (by omega) (Evx.sb ?_)
      rw [← en, ← ex]
      have h9 := hr n x hx
      unfold KeepN at h9 ⊢
      exact h9
  · rw [if_neg (fun q => by have := q.1; omega)]
    refine Evx.neg (by omega) (Evx.step (fun k => by rw [impl_keep.j0]) (Evx.neg (by simp) ?_))
    refine Evx.bind (impl_ask_x hn s) fun n en => ?_
    rw [impl_clone84 (by omega)]
    refine Evx.sb (Evx.neg (by omega) (Evx.pos (by omega) (Evx.sb ?_)))
    have hw : Without l (-1) = l := by unfold Without; rw [if_neg (by omega)]
    rw [← en, hw]
    have h9 := hr n l hl
    unfold KeepN at h9 ⊢
    exact h9
theorem impl_keptOk_x {l : List S83} {ns : List S26} (hl : (l.length : Int) ≤ 100000000) (hs : ∀ x ∈ l, Szd x.f0) (hn : (ns.length : Int) ≤ 100000000) (hsn : ∀ x ∈ ns, Szd x) {s : ByteArray} (ht : (s.size : Int) ≤ 1000000000) (now : Int) : Evx (fun k => impl_keptOk.f k l ns s now) (fun r => r = decide (MayAsk l ns s now)) := by
  unfold impl_keptOk.f
  refine Evx.bind (impl_kept_x hl hs) fun r1 e1 => ?_
  subst e1
  refine Evx.ite (fun h1 => ?_) (fun h1 => Evx.now (decide_eq_false (fun q => h1 q.1)).symm)
  refine Evx.bind (impl_names_x hn hsn) fun r2 e2 => ?_
  subst e2
  refine Evx.ite (fun h2 => ?_) (fun h2 => Evx.now (decide_eq_false (fun q => h2 q.2.1.1)).symm)
  refine Evx.bind (impl_text_x ht) fun r3 e3 => ?_
  subst e3
  refine Evx.ite (fun h3 => ?_) (fun h3 => Evx.now (decide_eq_false (fun q => h3 q.2.1.2)).symm)
  rw [impl_in_eq]
  simp only [Option.bind_some]
  by_cases c : 0 ≤ now ∧ now ≤ 900000
  · rw [decide_eq_true c]; exact Evx.now (decide_eq_true (show MayAsk l ns s now from ⟨h1, ⟨h2, h3⟩, c⟩)).symm
  · rw [decide_eq_false c]; exact Evx.now (decide_eq_false (fun q => c q.2.2)).symm

/-- The reference's walk over what is kept. -/
def SK (l : List S83) (s : ByteArray) (now : Int) (n : ByteArray × Int × Int × ByteArray × Int) : Nat → Nat → List S83 → List S83 × ByteArray × Int × Int × ByteArray × Int × Bool
  | 0, _, x => (Last5 (x ++ [KeepN n now]), n.1, n.2.1, n.2.2.1, n.2.2.2.1, n.2.2.2.2, false)
  | d + 1, i, x => if (rd_T83 l i).f0.f0.toList = s.toList then (if (rd_T83 l i).f1 > now then (l, (rd_T83 l i).f0.f0, (rd_T83 l i).f0.f1, (rd_T83 l i).f0.f2, (rd_T83 l i).f0.f3, (rd_T83 l i).f0.f4, true) else SK l s now n d (i + 1) x) else SK l s now n d (i + 1) (x ++ [rd_T83 l i])
theorem SK_succ {l : List S83} {s : ByteArray} {now : Int} {n : ByteArray × Int × Int × ByteArray × Int} (d i : Nat) (x : List S83) : SK l s now n (d + 1) i x = (if (rd_T83 l i).f0.f0.toList = s.toList then (if (rd_T83 l i).f1 > now then (l, (rd_T83 l i).f0.f0, (rd_T83 l i).f0.f1, (rd_T83 l i).f0.f2, (rd_T83 l i).f0.f3, (rd_T83 l i).f0.f4, true) else SK l s now n d (i + 1) x) else SK l s now n d (i + 1) (x ++ [rd_T83 l i])) := rfl
theorem SK_zero {l : List S83} {s : ByteArray} {now : Int} {n : ByteArray × Int × Int × ByteArray × Int} (i : Nat) (x : List S83) : SK l s now n 0 i x = (Last5 (x ++ [KeepN n now]), n.1, n.2.1, n.2.2.1, n.2.2.2.1, n.2.2.2.2, false) := rfl
theorem last5_le {y : List S83} (h : y.length ≤ 5) : Last5 y = y := by unfold Last5; rw [Nat.sub_eq_zero_of_le h]; rfl
theorem spec_keep_l {l : List S83} (hl : l.length ≤ 5) (s : ByteArray) (now : Int) (n : ByteArray × Int × Int × ByteArray × Int) (d : Nat) : ∀ (i : Nat) (x : List S83), i + d = l.length → x.length ≤ i →
    Evx (fun k => spec_KeptAsk.l0 k l s now x i n.1 n.2.1 n.2.2.1 n.2.2.2.1 n.2.2.2.2) (fun r => r = SK l s now n d i x) := by
  induction d with
  | zero =>
    intro i x hd hx
    have hyl : (x ++ [KeepN n now]).length ≤ 6 := by rw [List.length_append, List.length_singleton]; omega
    refine Evx.step (fun k => by rw [spec_KeptAsk.l0]) ?_
    refine Evx.neg (by omega) (Evx.pos (by omega) ?_)
    simp only [Option.bind_some]
    unfold SK
    refine Evx.ite (fun c => ?_) (fun c => ?_)
    · have c : ((x ++ [KeepN n now]).length : Int) > 5 := c
      refine Evx.pos (by show (1 : Int) ≤ ((x ++ [KeepN n now]).length : Int); omega) (Evx.now ?_)
      unfold Last5
      rw [show (x ++ [KeepN n now]).length - 5 = 1 by omega]
      rfl
    · have c : ¬ ((x ++ [KeepN n now]).length : Int) > 5 := c
      refine Evx.now ?_
      rw [last5_le (by omega)]
      rfl
  | succ d ih =>
    intro i x hd hx
    have e : wrap64 ((i : Int) + 1) = ((i + 1 : Nat) : Int) := by unfold wrap64; omega
    refine Evx.step (fun k => by rw [spec_KeptAsk.l0]) (Evx.pos (by omega) (Evx.pos (by omega) ?_))
    unfold SK
    refine Evx.ite (fun c => ?_) (fun c => ?_)
    · rw [if_pos c]
      refine Evx.step (fun k => by rw [spec_KeptAsk.j2]) ?_
      by_cases q : (rd_T83 l i).f1 > now
      · rw [if_pos q]
        refine Evx.pos (decide_eq_true q) ?_
        simp only [Option.bind_some, List.nil_append, List.length_nil]
        exact Evx.pos (by omega) (Evx.pos (by omega) (Evx.pos (by omega) (Evx.now rfl)))
      · rw [if_neg q]
        refine Evx.neg (by simpa using q) (Evx.pos (by omega) (Evx.pos (by omega) (Evx.pos c ?_)))
        rw [e]
        exact ih (i + 1) x (by omega) (by omega)
    · rw [if_neg c]
      refine Evx.step (fun k => by rw [spec_KeptAsk.j2]) (Evx.neg (by simp) (Evx.pos (by omega) (Evx.pos (by omega) (Evx.neg c (Evx.pos (by omega) ?_)))))
      rw [e]
      exact ih (i + 1) (x ++ [rd_T83 l i]) (by omega) (by rw [List.length_append, List.length_singleton]; omega)
theorem SK_skip {l : List S83} {s : ByteArray} {now : Int} {n : ByteArray × Int × Int × ByteArray × Int} (d : Nat) (m : Nat) : ∀ (i : Nat) (x : List S83), i + m ≤ l.length → (∀ j : Nat, i ≤ j → j < i + m → (rd_T83 l j).f0.f0 ≠ s) → SK l s now n (m + d) i x = SK l s now n d (i + m) (x ++ (l.drop i).take m) := by
  induction m with
  | zero => intro i x _ _; simp
  | succ m ih =>
    intro i x hm hn
    rw [show m + 1 + d = (m + d) + 1 by omega]
    have h1 : ¬ (rd_T83 l i).f0.f0.toList = s.toList := fun q => hn i (by omega) (by omega) (bl_inj q)
    rw [SK_succ, if_neg h1, ih (i + 1) _ (by omega) (fun j h2 h3 => hn j (by omega) (by omega)), List.drop_eq_getElem_cons (by omega : i < l.length), List.take_succ_cons, List.append_assoc, rdK_at (by omega), show i + 1 + m = i + (m + 1) by omega]
    simp only [List.singleton_append]
theorem SK_keep {l : List S83} (hk : KeptR l = true) (ns : List S26) (s : ByteArray) (now : Int) : SK l s now (AskR ns s) l.length 0 [] = KeepR l ns s now := by
  obtain ⟨_, hp, _⟩ := (kept_iff l).1 hk
  have hat := AtF_spec (l := l) (s := s) l.length 0
  rw [show (((0 : Nat) : Int)) = (0 : Int) from rfl] at hat
  unfold KeepR
  rcases hat with ⟨a, h1, h2, h3, h4, h5⟩ | ⟨h1, h2⟩
  · rw [h3]
    have h6 := SK_skip (l := l) (s := s) (now := now) (n := AskR ns s) (l.length - a) a 0 [] (by omega) (fun j q1 q2 => h5 j q1 (by omega))
    rw [show a + (l.length - a) = l.length by omega] at h6
    rw [h6, show l.length - a = (l.length - a - 1) + 1 by omega, SK_succ]
    rw [Nat.zero_add, if_pos (by rw [h4])]
    by_cases c : (rd_T83 l a).f1 > now
    · rw [if_pos c, if_pos ⟨by omega, c⟩]
    · rw [if_neg c, if_neg (fun q => c q.2)]
      have h7 := SK_skip (l := l) (s := s) (now := now) (n := AskR ns s) 0 (l.length - a - 1) (a + 1) (l.take a) (by omega) (fun j q1 q2 q3 => by
        have q4 := List.pairwise_iff_getElem.1 hp a j (by omega) (by omega) (by omega)
        rw [rdK_at (by omega)] at q3 h4
        exact q4 (by rw [h4, q3]))
      rw [Nat.add_zero] at h7
      rw [List.nil_append, List.drop_zero, h7, SK_zero]
      unfold Without
      rw [if_pos (by omega), Int.toNat_natCast, List.take_of_length_le (by rw [List.length_drop]; omega : (l.drop (a + 1)).length ≤ l.length - a - 1)]
  · rw [h1, if_neg (fun q => by have := q.1; omega)]
    have h6 := SK_skip (l := l) (s := s) (now := now) (n := AskR ns s) 0 l.length 0 [] (by omega) (fun j q1 q2 => h2 j q1 (by omega))
    rw [Nat.add_zero] at h6
    rw [h6, SK_zero]
    unfold Without
    rw [if_neg (by omega), List.nil_append, List.drop_zero, List.take_length]
theorem spec_keptask_x {l : List S83} {ns : List S26} (hl : (l.length : Int) ≤ 100000000) (hs : ∀ x ∈ l, Szd x.f0) (hn : (ns.length : Int) ≤ 100000000) (hsn : ∀ x ∈ ns, Szd x) {s : ByteArray} (ht : (s.size : Int) ≤ 1000000000) (now : Int) : Evx (fun k => spec_KeptAsk.f k l ns s now) (fun r => r = KeptAskR l ns s now) := by
  unfold spec_KeptAsk.f KeptAskR
  refine Evx.bind (spec_nameask_x hn hsn ht) fun r1 e1 => ?_
  refine Evx.bind (spec_kept_x hl hs) fun r2 e2 => ?_
  by_cases hk : KeptR l = true
  · refine Evx.pos (by rw [e2]; exact hk) ?_
    by_cases hq : NamesR ns = true ∧ TextR s = true
    · unfold NameAskR at e1
      rw [if_pos hq] at e1
      subst e1
      refine Evx.pos rfl ?_
      simp only [spec_in_eq, Option.bind_some]
      refine Evx.step (fun k => by rw [spec_KeptAsk.j0]) ?_
      by_cases hw : 0 ≤ now ∧ now ≤ 900000
      · rw [if_pos (show MayAsk l ns s now from ⟨hk, hq, hw⟩)]
        refine Evx.neg (by simp [hw]) ?_
        rw [← SK_keep hk ns s now]
        exact spec_keep_l ((kept_iff l).1 hk).2.2 s now (AskR ns s) l.length 0 [] (by omega) (by simp)
      · rw [if_neg (fun h : MayAsk l ns s now => hw h.2.2)]
        exact Evx.pos (by simp; omega) (Evx.now rfl)
    · unfold NameAskR at e1
      rw [if_neg hq] at e1
      subst e1
      rw [if_neg (fun h : MayAsk l ns s now => hq h.2.1)]
      exact Evx.neg (by simp) (Evx.step (fun k => by rw [spec_KeptAsk.j0]) (Evx.pos rfl (Evx.now rfl)))
  · rw [if_neg (fun h : MayAsk l ns s now => hk h.1)]
    exact Evx.neg (by rw [e2]; exact hk) (Evx.step (fun k => by rw [spec_KeptAsk.j0]) (Evx.pos rfl (Evx.now rfl)))

theorem name_time {t : ByteArray} {k a : Int} {al : ByteArray} {tm : Int} (h : NameR t k a al tm = true) : 1 ≤ tm ∧ tm ≤ 50 := by
  unfold NameR at h
  simp only [Bool.and_eq_true] at h
  exact of_decide_eq_true h.1.2
theorem without_sub {l : List S83} (a : Int) : (Without l a).Sublist l := by
  unfold Without
  by_cases h : a ≥ 0
  · rw [if_pos h, ← List.eraseIdx_eq_take_drop_succ]; exact List.eraseIdx_sublist _ _
  · rw [if_neg h]; exact List.Sublist.refl _
theorem without_ne {l : List S83} (hp : l.Pairwise Df) (s : ByteArray) : ∀ x ∈ Without l (AtF l s l.length 0), x.f0.f0 ≠ s := by
  have hat := AtF_spec (l := l) (s := s) l.length 0
  rw [show (((0 : Nat) : Int)) = (0 : Int) from rfl] at hat
  intro x hx
  rcases hat with ⟨a, h1, h2, h3, h4, h5⟩ | ⟨h1, h2⟩
  · rw [h3] at hx
    unfold Without at hx
    rw [if_pos (by omega), Int.toNat_natCast] at hx
    rw [rdK_at (by omega)] at h4
    rcases List.mem_append.1 hx with hx | hx
    · obtain ⟨j, hj, rfl⟩ := List.mem_iff_getElem.1 hx
      rw [List.length_take] at hj
      rw [List.getElem_take]
      have := h5 j (by omega) (by omega)
      rwa [rdK_at (by omega)] at this
    · obtain ⟨j, hj, rfl⟩ := List.mem_iff_getElem.1 hx
      rw [List.length_drop] at hj
      rw [List.getElem_drop]
      have := List.pairwise_iff_getElem.1 hp a (a + 1 + j) (by omega) (by omega) (by omega)
      intro q
      exact this (by rw [h4, q])
  · rw [h1] at hx
    unfold Without at hx
    rw [if_neg (by omega)] at hx
    obtain ⟨j, hj, rfl⟩ := List.mem_iff_getElem.1 hx
    have := h2 j (by omega) (by omega)
    rwa [rdK_at hj] at this
theorem keepN_ok {ns : List S26} (hsn : ∀ x ∈ ns, Szd x) {s : ByteArray} (ht : (s.size : Int) ≤ 1000000000) {now : Int} (h1 : NamesR ns = true) (h2 : TextR s = true) (h3 : 0 ≤ now ∧ now ≤ 900000) :
    Kp (KeepN (AskR ns s) now) ∧ (KeepN (AskR ns s) now).f0.f0 = s ∧ (KeepN (AskR ns s) now).f1 > now ∧ Szd (KeepN (AskR ns s) now).f0 := by
  obtain ⟨a1, a2, a3, a4⟩ := ask_ok hsn ht h1 h2
  have htm := name_time a1
  have hw : (KeepN (AskR ns s) now).f1 = now + (AskR ns s).2.2.2.2 := by show wrap64 _ = _; unfold wrap64; omega
  exact ⟨⟨a1, by rw [hw]; omega, by rw [hw]; omega⟩, bl_inj a2, by rw [hw]; omega, ⟨a3, a4⟩⟩
/-- Each that is kept is as the names have it. -/
def Cons (l : List S83) (ns : List S26) : Prop := ∀ x ∈ l, AskR ns x.f0.f0 = (x.f0.f0, x.f0.f1, x.f0.f2, x.f0.f3, x.f0.f4)
theorem keep_all {l : List S83} {ns : List S26} (hs : ∀ x ∈ l, Szd x.f0) (hsn : ∀ x ∈ ns, Szd x) {s : ByteArray} (ht : (s.size : Int) ≤ 1000000000) {now : Int} (hm : MayAsk l ns s now) :
    KeptR (KeepR l ns s now).1 = true ∧ (∀ x ∈ (KeepR l ns s now).1, Szd x.f0) ∧
    (KeepR (KeepR l ns s now).1 ns s now = ((KeepR l ns s now).1, (KeepR l ns s now).2.1, (KeepR l ns s now).2.2.1, (KeepR l ns s now).2.2.2.1, (KeepR l ns s now).2.2.2.2.1, (KeepR l ns s now).2.2.2.2.2.1, true)) ∧
    ((KeepR l ns s now).2.2.2.2.2.2 = true → (KeepR l ns s now).1 = l) ∧
    ((KeepR l ns s now).2.2.2.2.2.2 = false → ((KeepR l ns s now).2.1, (KeepR l ns s now).2.2.1, (KeepR l ns s now).2.2.2.1, (KeepR l ns s now).2.2.2.2.1, (KeepR l ns s now).2.2.2.2.2.1) = AskR ns s) ∧
    (Cons l ns → Cons (KeepR l ns s now).1 ns ∧ ((KeepR l ns s now).2.1, (KeepR l ns s now).2.2.1, (KeepR l ns s now).2.2.2.1, (KeepR l ns s now).2.2.2.2.1, (KeepR l ns s now).2.2.2.2.2.1) = AskR ns s) ∧
    (NameR (KeepR l ns s now).2.1 (KeepR l ns s now).2.2.1 (KeepR l ns s now).2.2.2.1 (KeepR l ns s now).2.2.2.2.1 (KeepR l ns s now).2.2.2.2.2.1 = true ∧ ((KeepR l ns s now).2.2.2.2.1.size : Int) ≤ 1000000000) := by
  obtain ⟨hk, ⟨h1, h2⟩, h3⟩ := hm
  obtain ⟨ka, kp, k5⟩ := (kept_iff l).1 hk
  obtain ⟨b1, b2, b3, b4⟩ := keepN_ok hsn ht h1 h2 h3
  obtain ⟨c1, c2, c3, c4⟩ := ask_ok hsn ht h1 h2
  by_cases c : AtF l s l.length 0 ≥ 0 ∧ (rd_T83 l (AtF l s l.length 0)).f1 > now
  · have e : KeepR l ns s now = (l, (rd_T83 l (AtF l s l.length 0)).f0.f0, (rd_T83 l (AtF l s l.length 0)).f0.f1, (rd_T83 l (AtF l s l.length 0)).f0.f2, (rd_T83 l (AtF l s l.length 0)).f0.f3, (rd_T83 l (AtF l s l.length 0)).f0.f4, true) := by unfold KeepR; rw [if_pos c]
    have hat := AtF_spec (l := l) (s := s) l.length 0
    rw [show (((0 : Nat) : Int)) = (0 : Int) from rfl] at hat
    rcases hat with ⟨a, q1, q2, q3, q4, q5⟩ | ⟨q1, q2⟩
    · have hmem : rd_T83 l (AtF l s l.length 0) ∈ l := by rw [q3, rdK_at (by omega)]; exact List.getElem_mem _
      rw [e]
      refine ⟨hk, hs, ?_, fun _ => rfl, fun q => by simp at q, fun hc => ⟨hc, ?_⟩, (ka _ hmem).1, (hs _ hmem).2⟩
      · exact e
      · have := hc _ hmem
        rw [q3] at this ⊢
        rw [q4] at this ⊢
        exact this.symm
    · exact absurd c.1 (by omega)
  · have e : KeepR l ns s now = (Last5 (Without l (AtF l s l.length 0) ++ [KeepN (AskR ns s) now]), (AskR ns s).1, (AskR ns s).2.1, (AskR ns s).2.2.1, (AskR ns s).2.2.2.1, (AskR ns s).2.2.2.2, false) := by unfold KeepR; rw [if_neg c]
    have hne := without_ne kp s
    have hsub := without_sub (l := l) (AtF l s l.length 0)
    rw [e]
    generalize Without l (AtF l s l.length 0) = X at hne hsub e
    generalize hN : KeepN (AskR ns s) now = N at b1 b2 b3 b4
    have hX5 : X.length ≤ 5 := Nat.le_trans hsub.length_le k5
    have hY : Last5 (X ++ [N]) = X.drop (X.length - 4) ++ [N] := by
      unfold Last5
      rw [List.length_append, List.length_singleton, List.drop_append_of_le_length (by omega), show X.length + 1 - 5 = X.length - 4 by omega]
    rw [hY]
    have hds : (X.drop (X.length - 4)).Sublist X := List.drop_sublist _ _
    generalize X.drop (X.length - 4) = Y at hds hY
    have hY4 : Y.length ≤ 5 := Nat.le_trans hds.length_le hX5
    have hYl : ∀ x ∈ Y, x ∈ l := fun x hx => (hds.trans hsub).subset hx
    have hYs : ∀ x ∈ Y, x.f0.f0 ≠ s := fun x hx => hne x (hds.subset hx)
    refine ⟨(kept_iff _).2 ⟨fun x hx => ?_, ?_, ?_⟩, fun x hx => ?_, ?_, fun q => by simp at q, fun _ => rfl, fun hc => ⟨fun x hx => ?_, rfl⟩, c1, c4⟩
    · rcases List.mem_append.1 hx with hx | hx
      · exact ka x (hYl x hx)
      · rw [List.mem_singleton.1 hx]; exact b1
    · refine List.pairwise_append.2 ⟨kp.sublist (hds.trans hsub), List.pairwise_singleton _ _, fun x hx y hy => ?_⟩
      rw [List.mem_singleton.1 hy]
      show x.f0.f0 ≠ N.f0.f0
      rw [b2]; exact hYs x hx
    · rw [← hY]
      unfold Last5
      rw [List.length_drop]; omega
    · rcases List.mem_append.1 hx with hx | hx
      · exact hs x (hYl x hx)
      · rw [List.mem_singleton.1 hx]; exact b4
    · have hlen : (Y ++ [N]).length = Y.length + 1 := by rw [List.length_append, List.length_singleton]
      have hat := AtF_spec (l := Y ++ [N]) (s := s) (Y ++ [N]).length 0
      rw [show (((0 : Nat) : Int)) = (0 : Int) from rfl] at hat
      have hlast : rd_T83 (Y ++ [N]) (Y.length : Int) = N := by rw [rdK_at (by omega)]; simp
      rcases hat with ⟨a, q1, q2, q3, q4, q5⟩ | ⟨q1, q2⟩
      · have ha : a = Y.length := by
          rcases Nat.lt_or_ge a Y.length with q | q
          · rw [rdK_at (by omega), List.getElem_append_left q] at q4
            exact absurd q4 (hYs _ (List.getElem_mem q))
          · omega
        unfold KeepR
        rw [q3, ha, hlast, if_pos ⟨by omega, b3⟩, ← hN]
        rfl
      · exact absurd (by rw [hlast]; exact b2) (q2 Y.length (by omega) (by omega))
    · rcases List.mem_append.1 hx with hx | hx
      · exact hc x (hYl x hx)
      · rw [List.mem_singleton.1 hx, b2, ← hN]
        have : (AskR ns s).1 = s := bl_inj c2
        exact Prod.ext this rfl

theorem odd_zero {s : List Int} (n : Int) : Evx (fun k => spec_l20Rd_odd.f k s n 0) (fun r => r = (false, n)) := by
  unfold spec_l20Rd_odd.f
  exact Evx.neg (by omega) (Evx.now rfl)
theorem textR_8 (i : Int) (h0 : 0 ≤ i) (h1 : i < 8) : TextR (rdOf ByteArray.empty ([(⟨#[97]⟩ : ByteArray), (⟨#[98]⟩ : ByteArray), (⟨#[99]⟩ : ByteArray), (⟨#[100, 100]⟩ : ByteArray), (⟨#[101, 101]⟩ : ByteArray), (⟨#[102]⟩ : ByteArray), (⟨#[103, 103]⟩ : ByteArray), (⟨#[104]⟩ : ByteArray)] : List ByteArray) i) = true := by
  obtain ⟨n, rfl⟩ := Int.eq_ofNat_of_zero_le h0
  have : n = 0 ∨ n = 1 ∨ n = 2 ∨ n = 3 ∨ n = 4 ∨ n = 5 ∨ n = 6 ∨ n = 7 := by omega
  rcases this with rfl | rfl | rfl | rfl | rfl | rfl | rfl | rfl <;> decide +kernel
theorem text_ok {s : List Int} (hs : Byt s) (hm : (s.length : Int) ≤ 1000000000) (n : Int) (h0 : 0 ≤ n) (h1 : n ≤ 1000000) :
    Evx (fun k => spec_l20Text.f k s n) (fun r => (TextR r.1 = true ∧ r.1.size ≤ 13) ∧ r.2 = n + 1) := by
  unfold spec_l20Text.f
  simp only [Option.bind_some]
  refine Evx.bind (pick_x hs hm _ _ h0 (by omega)) fun r1 p1 => ?_
  obtain ⟨e1, a1, b1, _⟩ := p1
  have b1 := b1 (by omega)
  exact Evx.pos a1 (Evx.pos b1 (Evx.now ⟨⟨textR_8 _ a1 b1, rdOf_size (by decide +kernel) _⟩, e1⟩))

theorem szd_set {l : List S83} (h : ∀ x ∈ l, Szd x.f0) {v : S83} (hv : Szd v.f0) (i : Nat) : ∀ x ∈ l.set i v, Szd x.f0 := by
  intro x hx
  rcases List.mem_or_eq_of_mem_set hx with q | q
  · exact h x q
  · rw [q]; exact hv
theorem keptdraw_j {s : List Int} (hs : Byt s) (hm : (s.length : Int) ≤ 1000000000) {x : List S83} (hx : ∀ y ∈ x, Szd y.f0) (h5 : x.length ≤ 5) (b : Bool) (n : Int) (n0 : 0 ≤ n) (n1 : n ≤ 100000) (hb : b = true → 0 < x.length) :
    Evx (fun k => spec_l20Kept.j1 k x b s n) (fun r => (∀ y ∈ r.1, Szd y.f0) ∧ r.1.length ≤ 6 ∧ n ≤ r.2 ∧ r.2 ≤ n + 1) := by
  refine Evx.step (fun k => by rw [spec_l20Kept.j1]) (Evx.ite (fun c => ?_) (fun _ => Evx.now ⟨hx, by show x.length ≤ 6; omega, Int.le_refl _, by show n ≤ n + 1; omega⟩))
  have hp := hb c
  have hz := szdk_rd hx (show (0 : Int) ≤ 0 by omega) (by omega : (0 : Int) < x.length)
  refine Evx.bind (pick_x hs hm _ _ n0 (by omega)) fun r1 p1 => ?_
  obtain ⟨e1, a1, b1, _⟩ := p1
  refine Evx.ite (fun _ => ?_) (fun _ => Evx.ite (fun _ => ?_) (fun _ => ?_))
  · refine Evx.pos (by omega) (Evx.pos (by omega) (Evx.now ⟨fun y hy => ?_, by show (x ++ [_]).length ≤ 6; simp; omega, by show n ≤ r1.2; omega, by show r1.2 ≤ n + 1; omega⟩))
    rcases List.mem_append.1 hy with q | q
    · exact hx y q
    · rw [List.mem_singleton.1 q]; exact hz
  · exact Evx.pos (by omega) (Evx.now ⟨szd_set (v := (⟨(⟨(rd_T83 x 0).f0.f0, (rd_T83 x 0).f0.f1, (rd_T83 x 0).f0.f2, (rd_T83 x 0).f0.f3, (rd_T83 x 0).f0.f4⟩ : S26), -1⟩ : S83)) hx hz _, by show (x.set _ _).length ≤ 6; rw [List.length_set]; omega, by show n ≤ r1.2; omega, by show r1.2 ≤ n + 1; omega⟩)
  · refine Evx.pos (by omega) (Evx.now ⟨szd_set (v := (⟨(⟨(⟨#[]⟩ : ByteArray), (rd_T83 x 0).f0.f1, (rd_T83 x 0).f0.f2, (rd_T83 x 0).f0.f3, (rd_T83 x 0).f0.f4⟩ : S26), (rd_T83 x 0).f1⟩ : S83)) hx ⟨by show (((⟨#[]⟩ : ByteArray).size : Nat) : Int) ≤ _; rw [show (⟨#[]⟩ : ByteArray).size = 0 from rfl]; omega, hz.2⟩ _, by show (x.set _ _).length ≤ 6; rw [List.length_set]; omega, by show n ≤ r1.2; omega, by show r1.2 ≤ n + 1; omega⟩)
theorem keptdraw_l {s : List Int} (hs : Byt s) (hm : (s.length : Int) ≤ 1000000000) {ns : List S26} (hn : (ns.length : Int) ≤ 8) (hsn : ∀ x ∈ ns, Szd x) (a : Int) (d : Nat) : ∀ (x : List S83) (n : Int), KeptR x = true → (∀ y ∈ x, Szd y.f0) → 0 ≤ n → n + 2 * d ≤ 90000 →
    Evx (fun k => spec_l20Kept.l0 k ns a x (d : Int) s n) (fun r => (∀ y ∈ r.1, Szd y.f0) ∧ r.1.length ≤ 6 ∧ n ≤ r.2 ∧ r.2 ≤ n + 2 * d + 2) := by
  induction d with
  | zero =>
    intro x n hk hx n0 n1
    have h5 := ((kept_iff x).1 hk).2.2
    refine Evx.step (fun k => by rw [spec_l20Kept.l0]) (Evx.neg (by show ¬ ((0 : Nat) : Int) > 0; omega) (Evx.ite (fun c => ?_) (fun c => ?_)))
    · refine Evx.bind (odd_x hs hm _ _ n0 (by omega)) fun r1 p1 => ?_
      obtain ⟨e1, e2⟩ := p1
      exact (keptdraw_j hs hm hx h5 r1.1 r1.2 (by omega) (by omega) (fun _ => by omega)).mono fun r hr => ⟨hr.1, hr.2.1, by have := hr.2.2.1; omega, by have := hr.2.2.2; omega⟩
    · exact (keptdraw_j hs hm hx h5 false n (by omega) (by omega) (fun q => by simp at q)).mono fun r hr => ⟨hr.1, hr.2.1, hr.2.2.1, by have := hr.2.2.2; omega⟩
  | succ d ih =>
    intro x n hk hx n0 n1
    have h5 := ((kept_iff x).1 hk).2.2
    have e : wrap64 (((d + 1 : Nat) : Int) - 1) = (d : Int) := by unfold wrap64; omega
    refine Evx.step (fun k => by rw [spec_l20Kept.l0]) (Evx.pos (by omega) ?_)
    rw [e]
    refine Evx.bind (text_ok hs hm _ n0 (by omega)) fun r1 p1 => ?_
    obtain ⟨⟨t1, z1⟩, e1⟩ := p1
    refine Evx.bind (pick_x hs hm _ _ (by omega) (by omega)) fun r2 p2 => ?_
    obtain ⟨e2, a2, b2, _⟩ := p2
    have b2 := b2 (by omega)
    have ht : (r1.1.size : Int) ≤ 1000000000 := by omega
    refine Evx.bind (spec_keptask_x (by omega) hx (by omega) hsn ht r2.1) fun r3 e3 => ?_
    unfold KeptAskR at e3
    have hk3 : KeptR r3.1 = true ∧ ∀ y ∈ r3.1, Szd y.f0 := by
      by_cases hmay : MayAsk x ns r1.1 r2.1
      · obtain ⟨k1, k2, _⟩ := keep_all hx hsn ht hmay
        rw [if_pos hmay] at e3
        rw [e3]; exact ⟨k1, k2⟩
      · rw [if_neg hmay] at e3
        rw [e3]; exact ⟨by decide +kernel, by simp⟩
    exact (ih _ r2.2 hk3.1 hk3.2 (by omega) (by omega)).mono fun r hr => ⟨hr.1, hr.2.1, by have := hr.2.2.1; omega, by have := hr.2.2.2; omega⟩
theorem l20kept_x {s : List Int} (hs : Byt s) (hm : (s.length : Int) ≤ 1000000000) {ns : List S26} (hn : (ns.length : Int) ≤ 8) (hsn : ∀ x ∈ ns, Szd x) (a n : Int) (n0 : 0 ≤ n) (n1 : n ≤ 80000) :
    Evx (fun k => spec_l20Kept.f k s n ns a) (fun r => (∀ y ∈ r.1, Szd y.f0) ∧ r.1.length ≤ 6 ∧ n ≤ r.2 ∧ r.2 ≤ n + 30) := by
  unfold spec_l20Kept.f
  refine Evx.bind (pick_x hs hm _ _ n0 (by omega)) fun r1 p1 => ?_
  obtain ⟨e1, a1, b1, _⟩ := p1
  have b1 := b1 (by omega)
  obtain ⟨c, hc⟩ := Int.eq_ofNat_of_zero_le a1
  rw [hc]
  exact (keptdraw_l hs hm hn hsn a c [] r1.2 (by decide +kernel) (by simp) (by omega) (by omega)).mono fun r hr => ⟨hr.1, hr.2.1, by have := hr.2.2.1; omega, by have := hr.2.2.2; omega⟩

theorem draw_keptask_x {l : List Int} (hl : Byt l) : Evx (fun k => spec_DrawKeptAsk.f k l) (fun r => (∀ y ∈ r.1, Szd y.f0) ∧ r.1.length ≤ 6 ∧ (∀ x ∈ r.2.1, Szd x) ∧ (r.2.1.length : Int) ≤ 8 ∧ r.2.2.1.size ≤ 13 ∧ 0 ≤ r.2.2.2 ∧ r.2.2.2 ≤ 900000 ∧ TextR r.2.2.1 = true) := by
  unfold spec_DrawKeptAsk.f
  obtain ⟨r, e, hbr, hnr, hp⟩ := open_x hl
  rw [e]; simp only [Option.bind_some]
  refine Evx.bind (names_x hbr (by omega) 20 r.2 (by omega) (by omega)) fun r1 p1 => ?_
  obtain ⟨q1, q2, q3, q4⟩ := p1
  refine Evx.bind (l20kept_x hbr (by omega) q2 q1 15 r1.2 (by omega) (by omega)) fun r2 p2 => ?_
  obtain ⟨u1, u2, u3, u4⟩ := p2
  refine Evx.bind (text_ok hbr (by omega) _ (by omega) (by omega)) fun r3 p3 => ?_
  obtain ⟨t1, t2⟩ := p3
  refine Evx.bind (pick_x hbr (by omega) _ _ (by omega) (by omega)) fun r4 p4 => ?_
  obtain ⟨e4, a4, b4, _⟩ := p4
  have b4 := b4 (by omega)
  exact Evx.now ⟨u1, u2, q1, q2, t1.2, a4, by show r4.1 ≤ 900000; omega, t1.1⟩

theorem same_l {l : List S83} (hl : (l.length : Int) ≤ 100000000) (d : Nat) : ∀ i : Int, 0 ≤ i → i ≤ l.length → l.length - i = d → Evx (fun k => laws_sameKept.l0 k l l i) (fun r => r = true) := by
  induction d with
  | zero =>
    intro i i0 i1 hd
    refine Evx.step (fun k => by rw [laws_sameKept.l0]) ?_
    exact Evx.neg (by omega) (Evx.now rfl)
  | succ d ih =>
    intro i i0 i1 hd
    have e : wrap64 (i + 1) = i + 1 := by unfold wrap64; omega
    refine Evx.step (fun k => by rw [laws_sameKept.l0]) (Evx.pos (by omega) (Evx.pos i0 (Evx.pos (by omega) ?_)))
    rw [e]
    exact Evx.neg (by simp) (ih _ (by omega) (by omega) (by omega))
theorem same_x {l : List S83} (hl : (l.length : Int) ≤ 100000000) : Evx (fun k => laws_sameKept.f k l l) (fun r => r = true) := by
  unfold laws_sameKept.f
  exact Evx.pos rfl (same_l hl l.length 0 (by omega) (by omega) (by omega))

/-- What is kept behind a text that was followed at most d times, and the address for which it stands. -/
def KFindF (ns : List S26) (now : Int) : Nat → List S83 → ByteArray → List S83 × Int × Bool
  | 0, l, _ => (l, 0, false)
  | d + 1, l, s => if (KeepR l ns s now).2.2.1 = 1 then ((KeepR l ns s now).1, (KeepR l ns s now).2.2.2.1, true) else if (KeepR l ns s now).2.2.1 = 0 then ((KeepR l ns s now).1, 0, false) else KFindF ns now d (KeepR l ns s now).1 (KeepR l ns s now).2.2.2.2.1
/-- What is kept after a text was followed, and the address for which it stands. -/
def KeptFindR (l : List S83) (ns : List S26) (s : ByteArray) (now : Int) : List S83 × Int × Bool := if MayAsk l ns s now then KFindF ns now 5 l s else ([], 0, false)
theorem alias_ok {t al : ByteArray} {kd ad tm : Int} (h : NameR t kd ad al tm = true) (k1 : kd ≠ 1) (k0 : kd ≠ 0) : TextR al = true := by
  unfold NameR at h
  rw [if_neg k0, if_neg k1] at h
  by_cases c : kd = 2
  · rw [if_pos c] at h
    simp only [Bool.and_eq_true] at h
    exact h.2.2
  · rw [if_neg c] at h
    simp at h
theorem keep_next {l : List S83} {ns : List S26} (hs : ∀ x ∈ l, Szd x.f0) (hsn : ∀ x ∈ ns, Szd x) {s : ByteArray} (ht : (s.size : Int) ≤ 1000000000) {now : Int} (hm : MayAsk l ns s now) (k1 : (KeepR l ns s now).2.2.1 ≠ 1) (k0 : (KeepR l ns s now).2.2.1 ≠ 0) :
    (∀ x ∈ (KeepR l ns s now).1, Szd x.f0) ∧ ((KeepR l ns s now).2.2.2.2.1.size : Int) ≤ 1000000000 ∧ MayAsk (KeepR l ns s now).1 ns (KeepR l ns s now).2.2.2.2.1 now := by
  obtain ⟨g1, g2, _, _, _, _, g7, g8⟩ := keep_all hs hsn ht hm
  exact ⟨g2, g8, g1, ⟨hm.2.1.1, alias_ok g7 k1 k0⟩, hm.2.2⟩
theorem impl_kfind_l {ns : List S26} (hn : (ns.length : Int) ≤ 100000000) (hsn : ∀ x ∈ ns, Szd x) (now : Int) (d : Nat) : ∀ (l : List S83) (s : ByteArray) (i : Int), (∀ x ∈ l, Szd x.f0) → (s.size : Int) ≤ 1000000000 → MayAsk l ns s now → 0 ≤ i → i ≤ 5 → 5 - i = d → Evx (fun k => impl_KeptFind.l0 k ns s now l i) (fun r => r = KFindF ns now d l s) := by
  induction d with
  | zero =>
    intro l s i hs ht hm i0 i1 hd
    refine Evx.step (fun k => by rw [impl_KeptFind.l0]) ?_
    exact Evx.neg (by omega) (Evx.now rfl)
  | succ d ih =>
    intro l s i hs ht hm i0 i1 hd
    have e : wrap64 (i + 1) = i + 1 := by unfold wrap64; omega
    have h5 := ((kept_iff l).1 hm.1).2.2
    refine Evx.step (fun k => by rw [impl_KeptFind.l0]) (Evx.pos (by omega) ?_)
    rw [e]
    refine Evx.bind (impl_keep_x (by omega) hn s now) fun r1 e1 => ?_
    subst e1
    unfold KFindF
    refine Evx.ite (fun c => ?_) (fun c1 => ?_)
    · rw [if_pos c]; exact Evx.now rfl
    · rw [if_neg c1]
      refine Evx.ite (fun c => ?_) (fun c0 => ?_)
      · rw [if_pos c]; exact Evx.now rfl
      · rw [if_neg c0]
        obtain ⟨n1, n2, n3⟩ := keep_next hs hsn ht hm c1 c0
        exact ih _ _ _ n1 n2 n3 (by omega) (by omega) (by omega)
theorem spec_kfind_l {ns : List S26} (hn : (ns.length : Int) ≤ 100000000) (hsn : ∀ x ∈ ns, Szd x) (now : Int) (d : Nat) : ∀ (l : List S83) (s : ByteArray) (i : Int), (∀ x ∈ l, Szd x.f0) → (s.size : Int) ≤ 1000000000 → MayAsk l ns s now → 0 ≤ i → i ≤ 5 → 5 - i = d → Evx (fun k => spec_KeptFind.l0 k l ns s now i) (fun r => r = KFindF ns now d l s) := by
  induction d with
  | zero =>
    intro l s i hs ht hm i0 i1 hd
    refine Evx.step (fun k => by rw [spec_KeptFind.l0]) ?_
    exact Evx.neg (by omega) (Evx.now rfl)
  | succ d ih =>
    intro l s i hs ht hm i0 i1 hd
    have e : wrap64 (i + 1) = i + 1 := by unfold wrap64; omega
    have h5 := ((kept_iff l).1 hm.1).2.2
    refine Evx.step (fun k => by rw [spec_KeptFind.l0]) (Evx.pos (by omega) ?_)
    rw [e]
    refine Evx.bind (spec_keptask_x (l := l) (ns := ns) (by omega) hs hn hsn ht now) fun r1 e1 => ?_
    unfold KeptAskR at e1
    rw [if_pos hm] at e1
    subst e1
    unfold KFindF
    refine Evx.ite (fun c0 => ?_) (fun c0 => ?_)
    · rw [if_neg (by rw [c0]; decide), if_pos c0]; exact Evx.now rfl
    · refine Evx.ite (fun c => ?_) (fun c1 => ?_)
      · rw [if_pos c]; exact Evx.now rfl
      · rw [if_neg c1, if_neg c0]
        obtain ⟨n1, n2, n3⟩ := keep_next hs hsn ht hm c1 c0
        exact ih _ _ _ n1 n2 n3 (by omega) (by omega) (by omega)
theorem impl_keptfind_x {l : List S83} {ns : List S26} (hl : (l.length : Int) ≤ 100000000) (hs : ∀ x ∈ l, Szd x.f0) (hn : (ns.length : Int) ≤ 100000000) (hsn : ∀ x ∈ ns, Szd x) {s : ByteArray} (ht : (s.size : Int) ≤ 1000000000) (now : Int) : Evx (fun k => impl_KeptFind.f k l ns s now) (fun r => r = KeptFindR l ns s now) := by
  unfold impl_KeptFind.f KeptFindR
  refine Evx.bind (impl_keptOk_x hl hs hn hsn ht now) fun r1 e1 => ?_
  refine Evx.ite (fun h => ?_) (fun h => ?_)
  · have hm : MayAsk l ns s now := of_decide_eq_true (e1 ▸ h)
    rw [if_pos hm, impl_clone75 hl]
    exact Evx.sb (impl_kfind_l hn hsn now 5 l s 0 hs ht hm (by omega) (by omega) (by omega))
  · have hm : ¬ MayAsk l ns s now := fun q => h (by rw [e1]; exact decide_eq_true q)
    rw [if_neg hm]
    exact Evx.now rfl
theorem spec_keptfind_x {l : List S83} {ns : List S26} (hl : (l.length : Int) ≤ 100000000) (hs : ∀ x ∈ l, Szd x.f0) (hn : (ns.length : Int) ≤ 100000000) (hsn : ∀ x ∈ ns, Szd x) {s : ByteArray} (ht : (s.size : Int) ≤ 1000000000) (now : Int) : Evx (fun k => spec_KeptFind.f k l ns s now) (fun r => r = KeptFindR l ns s now) := by
  have hno : ¬ MayAsk l ns s now → Evx (fun k => spec_KeptFind.j0 k l ns s now true) (fun r => r = KeptFindR l ns s now) := fun hm => by
    unfold KeptFindR
    rw [if_neg hm]
    exact Evx.step (fun k => by rw [spec_KeptFind.j0]) (Evx.pos rfl (Evx.now rfl))
  unfold spec_KeptFind.f
  refine Evx.bind (spec_kept_x hl hs) fun r1 e1 => ?_
  subst e1
  refine Evx.ite (fun h1 => ?_) (fun h1 => hno (fun q => h1 q.1))
  refine Evx.bind (spec_names_x hn hsn) fun r2 e2 => ?_
  subst e2
  refine Evx.ite (fun h2 => ?_) (fun h2 => hno (fun q => h2 q.2.1.1))
  refine Evx.bind (spec_text_x ht) fun r3 e3 => ?_
  subst e3
  refine Evx.ite (fun h3 => ?_) (fun h3 => hno (fun q => h3 q.2.1.2))
  rw [spec_in_eq]
  refine Evx.sb ?_
  by_cases c : 0 ≤ now ∧ now ≤ 900000
  · have hm : MayAsk l ns s now := ⟨h1, ⟨h2, h3⟩, c⟩
    rw [decide_eq_true c]
    refine Evx.step (fun k => by rw [spec_KeptFind.j0]) (Evx.neg (by simp) ?_)
    unfold KeptFindR
    rw [if_pos hm]
    exact spec_kfind_l hn hsn now 5 l s 0 hs ht hm (by omega) (by omega) (by omega)
  · rw [decide_eq_false c]
    exact hno (fun q => c q.2.2)
theorem kfind_len {ns : List S26} (hsn : ∀ x ∈ ns, Szd x) (now : Int) (d : Nat) : ∀ (l : List S83) (s : ByteArray), (∀ x ∈ l, Szd x.f0) → (s.size : Int) ≤ 1000000000 → MayAsk l ns s now → KeptR (KFindF ns now d l s).1 = true ∧ ∀ x ∈ (KFindF ns now d l s).1, Szd x.f0 := by
  induction d with
  | zero => intro l s hs ht hm; exact ⟨hm.1, hs⟩
  | succ d ih =>
    intro l s hs ht hm
    obtain ⟨g1, g2, _⟩ := keep_all hs hsn ht hm
    unfold KFindF
    by_cases c1 : (KeepR l ns s now).2.2.1 = 1
    · rw [if_pos c1]; exact ⟨g1, g2⟩
    · rw [if_neg c1]
      by_cases c0 : (KeepR l ns s now).2.2.1 = 0
      · rw [if_pos c0]; exact ⟨g1, g2⟩
      · rw [if_neg c0]
        obtain ⟨n1, n2, n3⟩ := keep_next hs hsn ht hm c1 c0
        exact ih _ _ n1 n2 n3

theorem live_x : Evx (fun k => (laws_alive.f k).bind fun t => some t) (fun r => r = true) := Evx.bind alive_x fun r hr => Evx.now hr
theorem kfind_find {ns : List S26} (hsn : ∀ x ∈ ns, Szd x) (now : Int) (d : Nat) : ∀ (l : List S83) (s : ByteArray), (∀ x ∈ l, Szd x.f0) → (s.size : Int) ≤ 1000000000 → MayAsk l ns s now → Cons l ns → (KFindF ns now d l s).2 = FindF ns d s := by
  induction d with
  | zero => intro l s hs ht hm hc; rfl
  | succ d ih =>
    intro l s hs ht hm hc
    obtain ⟨g1, g2, _, _, _, g6, _⟩ := keep_all hs hsn ht hm
    obtain ⟨g6, g7⟩ := g6 hc
    unfold KFindF FindF
    rw [← g7]
    by_cases c1 : (KeepR l ns s now).2.2.1 = 1
    · rw [if_pos c1, if_pos c1]
    · rw [if_neg c1, if_neg c1]
      by_cases c0 : (KeepR l ns s now).2.2.1 = 0
      · rw [if_pos c0, if_pos c0]
      · rw [if_neg c0, if_neg c0]
        obtain ⟨n1, n2, n3⟩ := keep_next hs hsn ht hm c1 c0
        exact ih _ _ n1 n2 n3 g6
theorem FnKeptFind : laws_FnKeptFind.Pure := by
  intro l hm hn hw
  have hb := byt_wf hw
  refine Evx.law (g := fun k => laws_FnKeptFind.f k l) ?_
  unfold laws_FnKeptFind.f
  refine Evx.ite (fun _ => Evx.now rfl) (fun hlen => ?_)
  have hd0 : Evx (fun k => spec_DrawKeptFind.f k l) (fun r => (∀ y ∈ r.1, Szd y.f0) ∧ r.1.length ≤ 6 ∧ (∀ x ∈ r.2.1, Szd x) ∧ (r.2.1.length : Int) ≤ 8 ∧ r.2.2.1.size ≤ 13 ∧ 0 ≤ r.2.2.2 ∧ r.2.2.2 ≤ 900000 ∧ TextR r.2.2.1 = true) := by
    unfold spec_DrawKeptFind.f
    exact Evx.bind (draw_keptask_x hb) fun r hr => Evx.now hr
  refine Evx.bind hd0 fun y hy => ?_
  obtain ⟨x, ns, s, now⟩ := y
  obtain ⟨hs, hl, hsn, hln, hts, n0, n1, htx⟩ := hy
  have hs : ∀ y ∈ x, Szd y.f0 := hs
  have hl : x.length ≤ 6 := hl
  have hsn : ∀ y ∈ ns, Szd y := hsn
  have hln : (ns.length : Int) ≤ 8 := hln
  have hts : s.size ≤ 13 := hts
  have n0 : 0 ≤ now := n0
  have n1 : now ≤ 900000 := n1
  have htx : TextR s = true := htx
  have ht : (s.size : Int) ≤ 1000000000 := by omega
  refine Evx.bind (impl_keptfind_x (l := x) (ns := ns) (by omega) hs (by omega) hsn ht now) fun r1 e1 => ?_
  refine Evx.bind (spec_keptfind_x (l := x) (ns := ns) (by omega) hs (by omega) hsn ht now) fun r2 e2 => ?_
  rw [← e1] at e2
  subst e2
  refine Evx.neg (by simp) (Evx.pos rfl ?_)
  unfold KeptFindR at e1
  by_cases hmay : MayAsk x ns s now
  · rw [if_pos hmay] at e1
    obtain ⟨k1, k2⟩ := kfind_len hsn now 5 x s hs ht hmay
    rw [← e1] at k1 k2
    have h5 := ((kept_iff _).1 k1).2.2
    refine Evx.bind (same_x (by omega)) fun t et => ?_
    subst et
    refine Evx.step (fun k => by rw [laws_FnKeptFind.j0]) (Evx.neg (by simp) ?_)
    refine Evx.bind (impl_kept_x (l := x) (by omega) hs) fun r4 e4 => Evx.pos (by rw [e4]; exact hmay.1) ?_
    refine Evx.bind (impl_names_x (l := ns) (by omega) hsn) fun r5 e5 => ?_
    rw [hmay.2.1.1] at e5
    subst e5
    refine Evx.step (fun k => by rw [laws_FnKeptFind.j1]) (Evx.neg (by simp) ?_)
    have hnil : MayAsk [] ns s now := ⟨by decide +kernel, hmay.2⟩
    refine Evx.bind (impl_keptfind_x (l := []) (ns := ns) (by decide) (by simp) (by omega) hsn ht now) fun r6 e6 => ?_
    unfold KeptFindR at e6
    rw [if_pos hnil] at e6
    have e7 := kfind_find hsn now 5 [] s (by simp) ht hnil (by intro z hz; simp at hz)
    rw [← e6] at e7
    refine Evx.bind (impl_find_x (l := ns) (by omega) hsn ht) fun r7 e8 => ?_
    unfold NameFindR at e8
    rw [if_pos hmay.2.1, ← e7] at e8
    subst e8
    refine Evx.bind (impl_kept_x (by omega) k2) fun r9 e9 => Evx.pos (by rw [e9]; exact k1) ?_
    refine Evx.pos (by simp) (Evx.pos rfl live_x)
  · rw [if_neg hmay] at e1
    subst e1
    refine Evx.bind (same_x (l := []) (by decide)) fun t et => ?_
    subst et
    refine Evx.step (fun k => by rw [laws_FnKeptFind.j0]) (Evx.neg (by simp) ?_)
    have hf : Evx (fun k => laws_FnKeptFind.j1 k ns s now [] false true) (fun r => r = true) := by
      refine Evx.step (fun k => by rw [laws_FnKeptFind.j1]) (Evx.pos rfl ?_)
      exact Evx.pos rfl (Evx.neg (by simp) live_x)
    refine Evx.bind (impl_kept_x (l := x) (by omega) hs) fun r4 e4 => ?_
    refine Evx.ite (fun h4 => ?_) (fun _ => hf)
    refine Evx.bind (impl_names_x (l := ns) (by omega) hsn) fun r5 e5 => ?_
    have : r5 = false := by
      cases h : r5 with
      | false => rfl
      | true =>
        exact absurd (show MayAsk x ns s now from ⟨by rw [← e4]; exact h4, ⟨by rw [← e5]; exact h, htx⟩, n0, n1⟩) hmay
    subst this
    exact hf

end Go.Proofs.Ytmgnmgobibpjjaa.Pure
