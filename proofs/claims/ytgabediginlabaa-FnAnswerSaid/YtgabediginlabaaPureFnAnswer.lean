/- The plain statement of FnAnswer: for all bytes, the law's function comes to true; there is no condition beyond those it names. -/
import Derived.Test.YtgabediginlabaaGFnAnswerx4
set_option linter.unusedVariables false
set_option linter.unusedSimpArgs false
set_option maxRecDepth 100000
namespace Go.Proofs.Ytgabediginlabaa.Pure
open Go.RowKit Go.Proofs.Ytgabediginlabaa.GFnAnswer Go.Proofs.YtgabediginlabaaU.PrintWords Go.Proofs.YtgabediginlabaaU.PrintLast Go.Proofs.YtgabediginlabaaU.PrintMore

theorem w64 {x : Int} (h0 : -9223372036854775808 ≤ x) (h1 : x ≤ 9223372036854775807) : wrap64 x = x := by unfold wrap64; omega

/-- It comes to an answer of which P holds. -/
def Evx {α : Type} (g : Nat → Option α) (P : α → Prop) : Prop := ∃ r, Ev g r ∧ P r
theorem Evx.bind {α β : Type} {g : Nat → Option α} {f : Nat → α → Option β} {P : α → Prop} {Q : β → Prop} (h : Evx g P) (k : ∀ a, P a → Evx (fun n => f n a) Q) : Evx (fun n => (g n).bind (f n)) Q := by
  obtain ⟨a, ha, pa⟩ := h
  obtain ⟨r, hr, qr⟩ := k a pa
  exact ⟨r, Ev.bind ha hr, qr⟩
theorem Evx.now {α : Type} {P : α → Prop} {r : α} (h : P r) : Evx (fun _ => some r) P := ⟨r, Ev.now r, h⟩
theorem Evx.pos {α : Type} {c : Prop} [Decidable c] {f g : Nat → Option α} {P : α → Prop} (hc : c) (h : Evx f P) : Evx (fun n => if c then f n else g n) P := by
  simp only [if_pos hc]; exact h
theorem Evx.neg {α : Type} {c : Prop} [Decidable c] {f g : Nat → Option α} {P : α → Prop} (hc : ¬ c) (h : Evx g P) : Evx (fun n => if c then f n else g n) P := by
  simp only [if_neg hc]; exact h
theorem Evx.ite {α : Type} {c : Prop} [Decidable c] {f g : Nat → Option α} {P : α → Prop} (h : c → Evx f P) (k : ¬ c → Evx g P) : Evx (fun n => if c then f n else g n) P := by
  by_cases hc : c
  · exact Evx.pos hc (h hc)
  · exact Evx.neg hc (k hc)
theorem Evx.step {α : Type} {g f : Nat → Option α} {P : α → Prop} (h : ∀ k, g (k + 1) = f k) (k : Evx f P) : Evx g P := by
  obtain ⟨r, hr, p⟩ := k
  exact ⟨r, Ev.step h hr, p⟩
theorem Evx.mono {α : Type} {g : Nat → Option α} {P Q : α → Prop} (h : Evx g P) (k : ∀ r, P r → Q r) : Evx g Q := by
  obtain ⟨r, hr, p⟩ := h
  exact ⟨r, hr, k r p⟩
theorem Evx.law {g : Nat → Option Bool} (h : Evx g (fun r => r = true)) : ∃ k, g k = some true := by
  obtain ⟨r, hr, rfl⟩ := h
  exact hr.rounds
theorem Evx.of {α : Type} {g : Nat → Option α} {r : α} {P : α → Prop} (hg : ∀ k, LeO (g k) (g (k + 1))) {k : Nat} (h : g k = some r) (p : P r) : Evx g P := ⟨r, Ev.of hg h, p⟩

/-- All are bytes. -/
def Byt (l : List Int) : Prop := ∀ x ∈ l, 0 ≤ x ∧ x ≤ 255
theorem byt_wf {l : List Int} (h : ∀ x ∈ l, (Lit.int .u8 x).wf = true) : Byt l := by
  intro x hx
  have := h x hx
  simp [Lit.wf, IntKind.min, IntKind.max, IntKind.signed, IntKind.bits] at this
  omega
theorem byt_rd {l : List Int} (h : Byt l) (i : Int) : 0 ≤ rd l i ∧ rd l i ≤ 255 := by
  unfold rd
  by_cases hi : i.toNat < l.length
  · rw [List.getD_eq_getElem?_getD, List.getElem?_eq_getElem hi]; exact h _ (List.getElem_mem hi)
  · rw [List.getD_eq_getElem?_getD, List.getElem?_eq_none (by omega)]; simp
theorem xor_nn {x y : Int} (hx : 0 ≤ x) (hx1 : x < 4611686018427387904) (hy : 0 ≤ y) (hy1 : y < 4611686018427387904) : 0 ≤ Go.bits .xor .i64 x y := by
  obtain ⟨a, rfl⟩ := Int.eq_ofNat_of_zero_le hx
  obtain ⟨b, rfl⟩ := Int.eq_ofNat_of_zero_le hy
  have ha : a < 2 ^ 62 := by omega
  have hb : b < 2 ^ 62 := by omega
  have hc := Nat.xor_lt_two_pow ha hb
  unfold Go.bits
  simp only [BitVec.ofInt_natCast, BitVec.toNat_xor, BitVec.toNat_ofNat]
  rw [IntKind.wrap_i64]
  have e : IntKind.i64.bits = 64 := rfl
  rw [e, Nat.mod_eq_of_lt (by omega), Nat.mod_eq_of_lt (by omega)]
  omega

/-- What a draw of a number below a tells. -/
def Pk (n a : Int) (r : Int × Int) : Prop := r.2 = n + 1 ∧ 0 ≤ r.1 ∧ (1 ≤ a → r.1 < a) ∧ (a < 1 → r.1 = 0)
theorem tmod_rng {x a : Int} (hx : 0 ≤ x) (ha : 1 ≤ a) : 0 ≤ Int.tmod x a ∧ Int.tmod x a < a := by
  rw [Int.tmod_eq_emod_of_nonneg hx]
  exact ⟨Int.emod_nonneg _ (by omega), Int.emod_lt_of_pos _ (by omega)⟩
theorem pick_j {s : List Int} (hs : Byt s) {n a : Int} (h0 : 0 ≤ n) (h1 : n ≤ 1000000000) (ha : 1 ≤ a) (hl : 1 ≤ (s.length : Int)) (hm : (s.length : Int) ≤ 1000000000) :
    Evx (fun k => spec_l20Rd_pick.j0 k a false s (n + 1)) (Pk n a) := by
  refine Evx.step (fun k => by rw [spec_l20Rd_pick.j0]) ?_
  have e1 : wrap64 (n + 1 - 1) = n := by unfold wrap64; omega
  have e2 : wrap64 (n * 7) = n * 7 := by unfold wrap64; omega
  have e3 : wrap64 (n * 7 + 3) = n * 7 + 3 := by unfold wrap64; omega
  have e4 : wrap64 (n * 29) = n * 29 := by unfold wrap64; omega
  simp only [e1, e2, e3, e4]
  refine Evx.neg (by simp) ?_
  refine Evx.ite (fun hlt => ?_) (fun hge => ?_)
  · refine Evx.pos h0 (Evx.neg (by omega) (Evx.now ?_))
    have hb := byt_rd hs n
    have e5 : wrap64 (rd s n) = rd s n := by unfold wrap64; omega
    rw [e5]
    have := tmod_rng hb.1 ha
    exact ⟨rfl, this.1, fun _ => this.2, fun h => by omega⟩
  · refine Evx.neg (by omega) ?_
    have r1 := tmod_rng h0 hl
    have r2 := tmod_rng (x := n * 7 + 3) (by omega) hl
    refine Evx.pos r1.1 (Evx.pos r1.2 (Evx.pos r2.1 (Evx.pos r2.2 (Evx.neg (by omega) (Evx.now ?_)))))
    have b1 := byt_rd hs (Int.tmod n s.length)
    have b2 := byt_rd hs (Int.tmod (n * 7 + 3) s.length)
    generalize rd s (Int.tmod n s.length) = x at b1 ⊢
    generalize rd s (Int.tmod (n * 7 + 3) s.length) = y at b2 ⊢
    have q0 : 0 ≤ Int.tdiv n s.length := Int.tdiv_nonneg h0 (by omega)
    have q1 : Int.tdiv n s.length ≤ n := by
      rw [Int.tdiv_eq_ediv_of_nonneg h0]; exact Int.ediv_le_self _ h0
    generalize Int.tdiv n s.length = q at q0 q1 ⊢
    have f1 : wrap64 x = x := by unfold wrap64; omega
    have f2 : wrap64 y = y := by unfold wrap64; omega
    have f3 : wrap64 (x * 131) = x * 131 := by unfold wrap64; omega
    have f4 : wrap64 (y * 1117) = y * 1117 := by unfold wrap64; omega
    have f5 : wrap64 (x * 131 + y * 1117) = x * 131 + y * 1117 := by unfold wrap64; omega
    have f6 : wrap64 (x * 131 + y * 1117 + n * 29) = x * 131 + y * 1117 + n * 29 := by unfold wrap64; omega
    have f7 : wrap64 q = q := by unfold wrap64; omega
    have f8 : wrap64 (q * 53) = q * 53 := by unfold wrap64; omega
    have f9 : wrap64 (x * 131 + y * 1117 + n * 29 + q * 53) = x * 131 + y * 1117 + n * 29 + q * 53 := by unfold wrap64; omega
    simp only [f1, f2, f3, f4, f5, f6, f7, f8, f9]
    have z0 : 0 ≤ x * 131 + y * 1117 + n * 29 + q * 53 := by omega
    have z1 : x * 131 + y * 1117 + n * 29 + q * 53 < 1000000000000 := by omega
    generalize x * 131 + y * 1117 + n * 29 + q * 53 = z at z0 z1 ⊢
    have f10 : wrap64 (Int.tdiv z 64) = z / 64 := by
      rw [Int.tdiv_eq_ediv_of_nonneg z0]; unfold wrap64; omega
    rw [f10]
    have := tmod_rng (xor_nn (x := z) (y := z / 64) z0 (by omega) (by omega) (by omega)) ha
    exact ⟨rfl, this.1, fun _ => this.2, fun h => by omega⟩
theorem pick_x {s : List Int} (hs : Byt s) (hm : (s.length : Int) ≤ 1000000000) (n a : Int) (h0 : 0 ≤ n) (h1 : n ≤ 1000000000) :
    Evx (fun k => spec_l20Rd_pick.f k s n a) (Pk n a) := by
  unfold spec_l20Rd_pick.f
  have e0 : wrap64 (n + 1) = n + 1 := by unfold wrap64; omega
  rw [e0]
  refine Evx.ite (fun ha => ?_) (fun ha => ?_)
  · refine Evx.step (fun k => by rw [spec_l20Rd_pick.j0]) (Evx.pos rfl (Evx.now ?_))
    exact ⟨rfl, Int.le_refl _, fun h => by omega, fun _ => rfl⟩
  · by_cases hl : (s.length : Int) = 0
    · have e : ((s.length : Int) == 0) = true := beq_iff_eq.mpr hl
      rw [e]
      refine Evx.step (fun k => by rw [spec_l20Rd_pick.j0]) (Evx.pos rfl (Evx.now ?_))
      exact ⟨rfl, Int.le_refl _, fun h => by omega, fun _ => rfl⟩
    · have e : ((s.length : Int) == 0) = false := beq_eq_false_iff_ne.mpr hl
      rw [e]
      exact pick_j hs h0 h1 (by omega) (by omega) hm
/-- What the reader that is opened is. -/
def Opn (r : List Int × Int) : Prop := Byt r.1 ∧ (r.1.length : Int) ≤ 2000 ∧ r.2 = 0
theorem open_x {l : List Int} (hl : Byt l) : ∃ r, spec_l20Open.f l = some r ∧ Opn r := by
  unfold spec_l20Open.f
  by_cases h : (l.length : Int) > 2000
  · rw [if_pos h, if_pos (by omega)]
    exact ⟨_, rfl, fun x hx => hl x (List.mem_of_mem_take hx), by simp only [List.length_take]; omega, rfl⟩
  · rw [if_neg h]
    exact ⟨_, rfl, hl, by simp only []; omega, rfl⟩

theorem alive_x : Evx (fun k => laws_alive.f k) (fun r => r = true) := Evx.of laws_alive.mono (k := 10) (r := true) (by decide +kernel) rfl

theorem impl_in_eq (a b c : Int) : impl_in.f a b c = some (decide (b ≤ a ∧ a ≤ c)) := by
  unfold impl_in.f
  by_cases h : b ≤ a
  · rw [if_pos h]; simp [h]
  · rw [if_neg (by omega)]; simp [h]
theorem spec_in_eq (a b c : Int) : spec_l1In.f a b c = some (decide (b ≤ a ∧ a ≤ c)) := by
  unfold spec_l1In.f
  by_cases h : b ≤ a
  · rw [if_pos h]; simp [h]
  · rw [if_neg (by omega)]; simp [h]

theorem odd_x {s : List Int} (hs : Byt s) (hm : (s.length : Int) ≤ 1000000000) (n a : Int) (h0 : 0 ≤ n) (h1 : n ≤ 1000000000) :
    Evx (fun k => spec_l20Rd_odd.f k s n a) (fun r => n ≤ r.2 ∧ r.2 ≤ n + 1) := by
  unfold spec_l20Rd_odd.f
  refine Evx.ite (fun h => ?_) (fun h => ?_)
  · refine Evx.bind (pick_x hs hm n a h0 h1) fun r hr => Evx.now ?_
    obtain ⟨e, _⟩ := hr
    simp only [e]; omega
  · exact Evx.now ⟨Int.le_refl _, by simp only []; omega⟩

theorem byt_snoc {l : List Int} {x : Int} (h : Byt l) (h0 : 0 ≤ x) (h1 : x ≤ 255) : Byt (l ++ [x]) := by
  intro y hy
  rcases List.mem_append.1 hy with hy | hy
  · exact h y hy
  · rw [List.mem_singleton] at hy; omega
theorem byt_nil : Byt [] := fun x hx => by cases hx
theorem bytes_l {s : List Int} (hs : Byt s) (hm : (s.length : Int) ≤ 1000000000) (d : Nat) : ∀ (c p : Int) (o : List Int), 0 ≤ c → c = d → 0 ≤ p → p ≤ 10000000 - 2 * c → Byt o → (o.length : Int) + c ≤ 100000 →
    Evx (fun k => spec_l20Rd_bytes.l0 k c o s p) (fun r => Byt r.1 ∧ (r.1.length : Int) = o.length + c ∧ p ≤ r.2 ∧ r.2 ≤ p + 2 * c) := by
  induction d with
  | zero =>
    intro c p o c0 hd p0 p1 ho hl
    exact Evx.step (fun k => by rw [spec_l20Rd_bytes.l0]) (Evx.neg (by omega) (Evx.now ⟨ho, by simp only []; omega, by simp only []; omega, by simp only []; omega⟩))
  | succ d ih =>
    intro c p o c0 hd p0 p1 ho hl
    refine Evx.step (fun k => by rw [spec_l20Rd_bytes.l0]) (Evx.pos (by omega) ?_)
    have e1 : wrap64 (c - 1) = c - 1 := by unfold wrap64; omega
    rw [e1]
    have next : ∀ x q : Int, 0 ≤ x → x ≤ 255 → p ≤ q → q ≤ p + 2 → Evx (fun k => spec_l20Rd_bytes.l0 k (c - 1) (o ++ [x]) s q) (fun r => Byt r.1 ∧ (r.1.length : Int) = o.length + c ∧ p ≤ r.2 ∧ r.2 ≤ p + 2 * c) := by
      intro x q x0 x1 q0 q1
      refine (ih (c - 1) q (o ++ [x]) (by omega) (by omega) (by omega) (by omega) (byt_snoc ho x0 x1) (by simp; omega)).mono ?_
      rintro r ⟨r1, r2, r3, r4⟩
      refine ⟨r1, ?_, by omega, by omega⟩
      rw [r2]; simp; omega
    refine Evx.bind (pick_x hs hm _ _ (by omega) (by omega)) fun r1 q1 => ?_
    obtain ⟨e2, a2, b2, _⟩ := q1
    refine Evx.ite (fun _ => ?_) (fun _ => ?_)
    · refine Evx.bind (pick_x hs hm _ _ (by omega) (by omega)) fun r3 q3 => ?_
      obtain ⟨e3, a3, b3, _⟩ := q3
      exact Evx.pos (by omega) (next _ _ (by omega) (by omega) (by omega) (by omega))
    · refine Evx.bind (pick_x hs hm _ _ (by omega) (by omega)) fun r3 q3 => ?_
      obtain ⟨e3, a3, b3, _⟩ := q3
      exact Evx.pos (by omega) (next _ _ (by omega) (by omega) (by omega) (by omega))
theorem bytes_x {s : List Int} (hs : Byt s) (hm : (s.length : Int) ≤ 1000000000) (n a : Int) (h0 : 0 ≤ n) (h1 : n ≤ 1000000) (a0 : 0 ≤ a) (a1 : a ≤ 1000) :
    Evx (fun k => spec_l20Rd_bytes.f k s n a) (fun r => Byt r.1 ∧ (r.1.length : Int) = a ∧ n ≤ r.2 ∧ r.2 ≤ n + 2 * a) := by
  unfold spec_l20Rd_bytes.f
  exact (bytes_l hs hm a.toNat a n [] a0 (by omega) h0 (by omega) byt_nil (by simp; omega)).mono fun r hr => ⟨hr.1, by have := hr.2.1; simpa using this, hr.2.2⟩

theorem words_x {s : List Int} (hs : Byt s) (hm : (s.length : Int) ≤ 1000000000) (n a : Int) (h0 : 0 ≤ n) (h1 : n ≤ 1000) :
    Evx (fun k => spec_l20Words.f k s n a) (fun r => -1000 ≤ r.1 ∧ r.1 ≤ 1000 ∧ r.2.1.length ≤ 100) := by
  unfold spec_l20Words.f
  refine Evx.bind (pick_x hs hm _ _ (by omega) (by omega)) fun r1 p1 => ?_
  obtain ⟨e1, a1, b1, _⟩ := p1
  refine Evx.bind (pick_x hs hm _ _ (by omega) (by omega)) fun r2 p2 => ?_
  obtain ⟨e2, a2, b2, _⟩ := p2
  have b1 := b1 (by omega)
  have b2 := b2 (by omega)
  refine Evx.bind (bytes_x hs hm _ _ (by omega) (by omega) a2 (by omega)) fun r3 p3 => ?_
  obtain ⟨_, l3, n3, m3⟩ := p3
  refine Evx.bind (odd_x hs hm _ _ (by omega) (by omega)) fun r4 p4 => ?_
  refine Evx.ite (fun _ => ?_) (fun _ => ?_)
  · refine Evx.bind (pick_x hs hm _ _ (by omega) (by omega)) fun r5 p5 => ?_
    obtain ⟨e5, a5, b5, _⟩ := p5
    have b5 := b5 (by omega)
    have f1 : wrap64 (r5.1 * 300) = r5.1 * 300 := by unfold wrap64; omega
    have f2 : wrap64 (256 - r5.1 * 300) = 256 - r5.1 * 300 := by unfold wrap64; omega
    rw [f1, f2]
    refine Evx.bind (odd_x hs hm _ _ (by omega) (by omega)) fun r6 p6 => ?_
    refine Evx.ite (fun _ => Evx.pos (by omega) (Evx.now ?_)) (fun _ => Evx.now ?_)
    · exact ⟨by simp only []; omega, by simp only []; omega, by simp⟩
    · exact ⟨by simp only []; omega, by simp only []; omega, by simp only []; omega⟩
  · refine Evx.bind (odd_x hs hm _ _ (by omega) (by omega)) fun r6 p6 => ?_
    refine Evx.ite (fun _ => Evx.pos (by omega) (Evx.now ?_)) (fun _ => Evx.now ?_)
    · exact ⟨by simp only []; omega, by simp only []; omega, by simp⟩
    · exact ⟨by simp only []; omega, by simp only []; omega, by simp only []; omega⟩
theorem draw_x {l : List Int} (hl : Byt l) : Evx (fun k => spec_DrawAnswer.f k l) (fun d => d.2.length ≤ 100) := by
  unfold spec_DrawAnswer.f
  obtain ⟨r, e, hb, hn, hp⟩ := open_x hl
  rw [e]; simp only [Option.bind_some]
  exact Evx.bind (words_x hb (by omega) _ _ (by omega) (by omega)) fun r hr => Evx.now hr.2.2
theorem rev_eq : ∀ l : List Int, l.length ≤ 9 → slices_Reverse_byte_byte.f 20 l = some l.reverse
  | [], _ => by kernel_rfl
  | [a], _ => by kernel_rfl
  | [a, b], _ => by kernel_rfl
  | [a, b, c], _ => by kernel_rfl
  | [a, b, c, d], _ => by kernel_rfl
  | [a, b, c, d, e], _ => by kernel_rfl
  | [a, b, c, d, e, f], _ => by kernel_rfl
  | [a, b, c, d, e, f, g], _ => by kernel_rfl
  | [a, b, c, d, e, f, g, h], _ => by kernel_rfl
  | [a, b, c, d, e, f, g, h, i], _ => by kernel_rfl
  | a :: b :: c :: d :: e :: f :: g :: h :: i :: j :: t, q => by simp at q
theorem rev_x {l : List Int} (h : l.length ≤ 9) : Evx (fun k => slices_Reverse_byte_byte.f k l) (fun r => r = l.reverse) :=
  Evx.of (slices_Reverse_byte_byte.mono l) (rev_eq l h) rfl
theorem srev_eq (n m : Int) : ∀ l : List Int, l.length ≤ 9 → spec_Answer.l0 20 (wrap64 ((l.length : Int) - 1)) n l m [] = some (m, l.reverse)
  | [], _ => by kernel_rfl
  | [a], _ => by kernel_rfl
  | [a, b], _ => by kernel_rfl
  | [a, b, c], _ => by kernel_rfl
  | [a, b, c, d], _ => by kernel_rfl
  | [a, b, c, d, e], _ => by kernel_rfl
  | [a, b, c, d, e, f], _ => by kernel_rfl
  | [a, b, c, d, e, f, g], _ => by kernel_rfl
  | [a, b, c, d, e, f, g, h], _ => by kernel_rfl
  | [a, b, c, d, e, f, g, h, i], _ => by kernel_rfl
  | a :: b :: c :: d :: e :: f :: g :: h :: i :: j :: t, q => by simp at q
theorem clone_eq {l : List Int} (h : l.length ≤ 1000000) : impl_clone_byte.f l = some l := by
  unfold impl_clone_byte.f
  by_cases e : (l.length : Int) = 0
  · rw [if_pos e]
    have : l = [] := List.eq_nil_of_length_eq_zero (by omega)
    rw [this]
  · rw [if_neg e]; simp only [Option.bind_some]
    rw [if_pos (by simp; omega)]; rfl
/-- What an answer is. -/
def Ans (n : Int) (l : List Int) : Int × List Int := if 0 ≤ n ∧ n ≤ 255 ∧ l.length ≤ 9 then (n, l.reverse) else (0, [])
theorem impl_ans (n : Int) (l : List Int) : Evx (fun k => impl_Answer.f k n l) (fun r => r = Ans n l) := by
  unfold impl_Answer.f
  simp only [impl_in_eq, Option.bind_some]
  refine Evx.ite (fun h => ?_) (fun h => ?_)
  · have h : 0 ≤ n ∧ n ≤ 255 := by simpa using h
    by_cases hl : (l.length : Int) > 9
    · rw [decide_eq_true hl]
      refine Evx.step (fun k => by rw [impl_Answer.j0]) (Evx.pos rfl (Evx.now ?_))
      unfold Ans; rw [if_neg (by omega)]
    · rw [decide_eq_false hl]
      refine Evx.step (fun k => by rw [impl_Answer.j0]) (Evx.neg (by simp) ?_)
      rw [clone_eq (by omega)]; simp only [Option.bind_some]
      refine Evx.bind (rev_x (by omega)) fun r hr => Evx.now ?_
      unfold Ans; rw [if_pos (by omega), hr]
  · have h : ¬ (0 ≤ n ∧ n ≤ 255) := by simpa using h
    refine Evx.step (fun k => by rw [impl_Answer.j0]) (Evx.pos rfl (Evx.now ?_))
    unfold Ans; rw [if_neg (by omega)]
theorem spec_ans_no (n : Int) (l : List Int) (m : Int) (o : List Int) (h : ¬ (0 ≤ n ∧ n ≤ 255 ∧ l.length ≤ 9)) : Evx (fun k => spec_Answer.j0 k true n l m o) (fun r => r = Ans n l) := by
  refine Evx.step (fun k => by rw [spec_Answer.j0]) (Evx.pos rfl (Evx.now ?_))
  unfold Ans; rw [if_neg h]
theorem spec_ans (n : Int) (l : List Int) : Evx (fun k => spec_Answer.f k n l) (fun r => r = Ans n l) := by
  unfold spec_Answer.f
  simp only [spec_in_eq, Option.bind_some]
  refine Evx.ite (fun h => spec_ans_no _ _ _ _ (by omega)) (fun h => ?_)
  by_cases hn : 0 ≤ n ∧ n ≤ 255
  · rw [decide_eq_true hn]
    refine Evx.step (fun k => by rw [spec_Answer.j0]) (Evx.neg (by simp) ?_)
    have ml : ∀ k, LeO (spec_Answer.l0 k (wrap64 ((l.length : Int) - 1)) n l n []) (spec_Answer.l0 (k + 1) (wrap64 ((l.length : Int) - 1)) n l n []) := fun k => by
      first | exact (spec_Answer.mono_l k).2 _ _ _ _ _ | exact (spec_Answer.mono_l k).1 _ _ _ _ _ | exact (spec_Answer.mono_l k) _ _ _ _ _
    refine Evx.of ml (srev_eq n n l (by omega)) ?_
    unfold Ans; rw [if_pos (by omega)]
  · rw [decide_eq_false hn]
    exact spec_ans_no _ _ _ _ (by omega)
theorem same_eq (l : List Int) : laws_sameBytes.f l l = some true := by simp [laws_sameBytes.f]
theorem FnAnswer : laws_FnAnswer.Pure := by
  intro l _ hn hw
  refine Evx.law (g := fun k => laws_FnAnswer.f k l) ?_
  unfold laws_FnAnswer.f
  refine Evx.ite (fun _ => Evx.now rfl) (fun _ => ?_)
  refine Evx.bind (draw_x (byt_wf hw)) fun d hd => ?_
  refine Evx.bind (impl_ans _ _) fun a ha => ?_
  refine Evx.bind (spec_ans _ _) fun b hb => ?_
  subst ha; subst hb
  have al := Evx.bind (f := fun _ t => some t) alive_x fun r hr => Evx.now hr
  rw [same_eq]; simp only [Option.bind_some]
  refine Evx.pos trivial ?_
  refine Evx.step (fun k => by rw [laws_FnAnswer.j0]) (Evx.neg (by simp) ?_)
  have no : ¬ (0 ≤ d.1 ∧ d.1 ≤ 255 ∧ d.2.length ≤ 9) → Evx (fun k => laws_FnAnswer.j1 k true d.1 d.2 (Ans d.1 d.2).1 (Ans d.1 d.2).2) (fun r => r = true) := by
    intro h
    have e : Ans d.1 d.2 = (0, []) := by unfold Ans; rw [if_neg h]
    rw [e]
    exact Evx.step (fun k => by rw [laws_FnAnswer.j1]) (Evx.pos rfl (Evx.pos (by simp) al))
  refine Evx.ite (fun h => no (by omega)) (fun h1 => Evx.ite (fun h => no (by omega)) (fun h2 => ?_))
  by_cases h3 : d.1 > 255
  · rw [decide_eq_true h3]; exact no (by omega)
  · rw [decide_eq_false h3]
    have e : Ans d.1 d.2 = (d.1, d.2.reverse) := by unfold Ans; rw [if_pos (by omega)]
    rw [e]
    refine Evx.step (fun k => by rw [laws_FnAnswer.j1]) (Evx.neg (by simp) ?_)
    refine Evx.bind (impl_ans _ _) fun c hc => ?_
    have e2 : Ans d.1 d.2.reverse = (d.1, d.2) := by unfold Ans; rw [if_pos (by simp; omega)]; simp
    rw [e2] at hc
    subst hc
    rw [same_eq]; simp only [Option.bind_some]
    exact Evx.pos trivial (Evx.pos (by simp) (Evx.pos trivial (Evx.pos trivial al)))

end Go.Proofs.Ytgabediginlabaa.Pure
