/- The plain statement of FnSealed: for all arguments, the law's function comes to true; there is no condition beyond those it names. -/
import Derived.Test.YtgabediginlabaaGFnSealedx5
set_option linter.unusedVariables false
set_option linter.unusedSimpArgs false
set_option maxRecDepth 100000
namespace Go.Proofs.Ytgabediginlabaa.Pure
open Go.RowKit Go.Proofs.Ytgabediginlabaa.GFnSealed Go.Proofs.YtgabediginlabaaU.PrintWords Go.Proofs.YtgabediginlabaaU.PrintLast Go.Proofs.YtgabediginlabaaU.PrintMore

theorem w64 {x : Int} (h0 : -9223372036854775808 ≤ x) (h1 : x ≤ 9223372036854775807) : wrap64 x = x := by unfold wrap64; omega

/-- It comes to an answer of which P holds. -/
def Evx {α : Type} (g : Nat → Option α) (P : α → Prop) : Prop := ∃ r, Ev g r ∧ P r
theorem Evx.bind {α β : Type} {g : Nat → Option α} {f : Nat → α → Option β} {P : α → Prop} {Q : β → Prop} (h : Evx g P) (k : ∀ a, P a → Evx (fun n => f n a) Q) : Evx (fun n => (g n).bind (f n)) Q := by
  obtain ⟨a, ha, pa⟩ := h
  obtain ⟨r, hr, qr⟩ := k a pa
  exact ⟨r, Ev.bind ha hr, qr⟩
theorem Evx.now {α : Type} {P : α → Prop} {r : α} (h : P r) : Evx (fun _ => some r) P := ⟨r, Ev.now r, h⟩
theorem Evx.pos {α : Type} {c : Prop} [Decidable c] {f g : Nat → Option α} {P : α → Prop} (hc : c) (h : Evx f P) : Evx (fun n => if c then f n else g n) P := by
  simp only [if_pos hc]; exact h
theorem Evx.neg {α : Type} {c : Prop} [Decidable c] {f g : Nat → Option α} {P : α → Prop} (hc : ¬ c) (h : Evx g P) : Evx (fun n => if c then f n else g n) P := by
  simp only [if_neg hc]; exact h
theorem Evx.ite {α : Type} {c : Prop} [Decidable c] {f g : Nat → Option α} {P : α → Prop} (h : c → Evx f P) (k : ¬ c → Evx g P) : Evx (fun n => if c then f n else g n) P := by
  by_cases hc : c
  · exact Evx.pos hc (h hc)
  · exact Evx.neg hc (k hc)
theorem Evx.step {α : Type} {g f : Nat → Option α} {P : α → Prop} (h : ∀ k, g (k + 1) = f k) (k : Evx f P) : Evx g P := by
  obtain ⟨r, hr, p⟩ := k
  exact ⟨r, Ev.step h hr, p⟩
theorem Evx.mono {α : Type} {g : Nat → Option α} {P Q : α → Prop} (h : Evx g P) (k : ∀ r, P r → Q r) : Evx g Q := by
  obtain ⟨r, hr, p⟩ := h
  exact ⟨r, hr, k r p⟩
theorem Evx.law {g : Nat → Option Bool} (h : Evx g (fun r => r = true)) : ∃ k, g k = some true := by
  obtain ⟨r, hr, rfl⟩ := h
  exact hr.rounds
theorem Evx.of {α : Type} {g : Nat → Option α} {r : α} {P : α → Prop} (hg : ∀ k, LeO (g k) (g (k + 1))) {k : Nat} (h : g k = some r) (p : P r) : Evx g P := ⟨r, Ev.of hg h, p⟩

/-- All are bytes. -/
def Byt (l : List Int) : Prop := ∀ x ∈ l, 0 ≤ x ∧ x ≤ 255
theorem byt_wf {l : List Int} (h : ∀ x ∈ l, (Lit.int .u8 x).wf = true) : Byt l := by
  intro x hx
  have := h x hx
  simp [Lit.wf, IntKind.min, IntKind.max, IntKind.signed, IntKind.bits] at this
  omega
theorem byt_rd {l : List Int} (h : Byt l) (i : Int) : 0 ≤ rd l i ∧ rd l i ≤ 255 := by
  unfold rd
  by_cases hi : i.toNat < l.length
  · rw [List.getD_eq_getElem?_getD, List.getElem?_eq_getElem hi]; exact h _ (List.getElem_mem hi)
  · rw [List.getD_eq_getElem?_getD, List.getElem?_eq_none (by omega)]; simp
theorem xor_nn {x y : Int} (hx : 0 ≤ x) (hx1 : x < 4611686018427387904) (hy : 0 ≤ y) (hy1 : y < 4611686018427387904) : 0 ≤ Go.bits .xor .i64 x y := by
  obtain ⟨a, rfl⟩ := Int.eq_ofNat_of_zero_le hx
  obtain ⟨b, rfl⟩ := Int.eq_ofNat_of_zero_le hy
  have ha : a < 2 ^ 62 := by omega
  have hb : b < 2 ^ 62 := by omega
  have hc := Nat.xor_lt_two_pow ha hb
  unfold Go.bits
  simp only [BitVec.ofInt_natCast, BitVec.toNat_xor, BitVec.toNat_ofNat]
  rw [IntKind.wrap_i64]
  have e : IntKind.i64.bits = 64 := rfl
  rw [e, Nat.mod_eq_of_lt (by omega), Nat.mod_eq_of_lt (by omega)]
  omega

/-- What a draw of a number below a tells. -/
def Pk (n a : Int) (r : Int × Int) : Prop := r.2 = n + 1 ∧ 0 ≤ r.1 ∧ (1 ≤ a → r.1 < a) ∧ (a < 1 → r.1 = 0)
theorem tmod_rng {x a : Int} (hx : 0 ≤ x) (ha : 1 ≤ a) : 0 ≤ Int.tmod x a ∧ Int.tmod x a < a := by
  rw [Int.tmod_eq_emod_of_nonneg hx]
  exact ⟨Int.emod_nonneg _ (by omega), Int.emod_lt_of_pos _ (by omega)⟩
theorem pick_j {s : List Int} (hs : Byt s) {n a : Int} (h0 : 0 ≤ n) (h1 : n ≤ 1000000000) (ha : 1 ≤ a) (hl : 1 ≤ (s.length : Int)) (hm : (s.length : Int) ≤ 1000000000) :
    Evx (fun k => spec_l20Rd_pick.j0 k a false s (n + 1)) (Pk n a) := by
  refine Evx.step (fun k => by rw [spec_l20Rd_pick.j0]) ?_
  have e1 : wrap64 (n + 1 - 1) = n := by unfold wrap64; omega
  have e2 : wrap64 (n * 7) = n * 7 := by unfold wrap64; omega
  have e3 : wrap64 (n * 7 + 3) = n * 7 + 3 := by unfold wrap64; omega
  have e4 : wrap64 (n * 29) = n * 29 := by unfold wrap64; omega
  simp only [e1, e2, e3, e4]
  refine Evx.neg (by simp) ?_
  refine Evx.ite (fun hlt => ?_) (fun hge => ?_)
  · refine Evx.pos h0 (Evx.neg (by omega) (Evx.now ?_))
    have hb := byt_rd hs n
    have e5 : wrap64 (rd s n) = rd s n := by unfold wrap64; omega
    rw [e5]
    have := tmod_rng hb.1 ha
    exact ⟨rfl, this.1, fun _ => this.2, fun h => by omega⟩
  · refine Evx.neg (by omega) ?_
    have r1 := tmod_rng h0 hl
    have r2 := tmod_rng (x := n * 7 + 3) (by omega) hl
    refine Evx.pos r1.1 (Evx.pos r1.2 (Evx.pos r2.1 (Evx.pos r2.2 (Evx.neg (by omega) (Evx.now ?_)))))
    have b1 := byt_rd hs (Int.tmod n s.length)
    have b2 := byt_rd hs (Int.tmod (n * 7 + 3) s.length)
    generalize rd s (Int.tmod n s.length) = x at b1 ⊢
    generalize rd s (Int.tmod (n * 7 + 3) s.length) = y at b2 ⊢
    have q0 : 0 ≤ Int.tdiv n s.length := Int.tdiv_nonneg h0 (by omega)
    have q1 : Int.tdiv n s.length ≤ n := by
      rw [Int.tdiv_eq_ediv_of_nonneg h0]; exact Int.ediv_le_self _ h0
    generalize Int.tdiv n s.length = q at q0 q1 ⊢
    have f1 : wrap64 x = x := by unfold wrap64; omega
    have f2 : wrap64 y = y := by unfold wrap64; omega
    have f3 : wrap64 (x * 131) = x * 131 := by unfold wrap64; omega
    have f4 : wrap64 (y * 1117) = y * 1117 := by unfold wrap64; omega
    have f5 : wrap64 (x * 131 + y * 1117) = x * 131 + y * 1117 := by unfold wrap64; omega
    have f6 : wrap64 (x * 131 + y * 1117 + n * 29) = x * 131 + y * 1117 + n * 29 := by unfold wrap64; omega
    have f7 : wrap64 q = q := by unfold wrap64; omega
    have f8 : wrap64 (q * 53) = q * 53 := by unfold wrap64; omega
    have f9 : wrap64 (x * 131 + y * 1117 + n * 29 + q * 53) = x * 131 + y * 1117 + n * 29 + q * 53 := by unfold wrap64; omega
    simp only [f1, f2, f3, f4, f5, f6, f7, f8, f9]
    have z0 : 0 ≤ x * 131 + y * 1117 + n * 29 + q * 53 := by omega
    have z1 : x * 131 + y * 1117 + n * 29 + q * 53 < 1000000000000 := by omega
    generalize x * 131 + y * 1117 + n * 29 + q * 53 = z at z0 z1 ⊢
    have f10 : wrap64 (Int.tdiv z 64) = z / 64 := by
      rw [Int.tdiv_eq_ediv_of_nonneg z0]; unfold wrap64; omega
    rw [f10]
    have := tmod_rng (xor_nn (x := z) (y := z / 64) z0 (by omega) (by omega) (by omega)) ha
    exact ⟨rfl, this.1, fun _ => this.2, fun h => by omega⟩
theorem pick_x {s : List Int} (hs : Byt s) (hm : (s.length : Int) ≤ 1000000000) (n a : Int) (h0 : 0 ≤ n) (h1 : n ≤ 1000000000) :
    Evx (fun k => spec_l20Rd_pick.f k s n a) (Pk n a) := by
  unfold spec_l20Rd_pick.f
  have e0 : wrap64 (n + 1) = n + 1 := by unfold wrap64; omega
  rw [e0]
  refine Evx.ite (fun ha => ?_) (fun ha => ?_)
  · refine Evx.step (fun k => by rw [spec_l20Rd_pick.j0]) (Evx.pos rfl (Evx.now ?_))
    exact ⟨rfl, Int.le_refl _, fun h => by omega, fun _ => rfl⟩
  · by_cases hl : (s.length : Int) = 0
    · have e : ((s.length : Int) == 0) = true := beq_iff_eq.mpr hl
      rw [e]
      refine Evx.step (fun k => by rw [spec_l20Rd_pick.j0]) (Evx.pos rfl (Evx.now ?_))
      exact ⟨rfl, Int.le_refl _, fun h => by omega, fun _ => rfl⟩
    · have e : ((s.length : Int) == 0) = false := beq_eq_false_iff_ne.mpr hl
      rw [e]
      exact pick_j hs h0 h1 (by omega) (by omega) hm
/-- What the reader that is opened is. -/
def Opn (r : List Int × Int) : Prop := Byt r.1 ∧ (r.1.length : Int) ≤ 2000 ∧ r.2 = 0
theorem open_x {l : List Int} (hl : Byt l) : ∃ r, spec_l20Open.f l = some r ∧ Opn r := by
  unfold spec_l20Open.f
  by_cases h : (l.length : Int) > 2000
  · rw [if_pos h, if_pos (by omega)]
    exact ⟨_, rfl, fun x hx => hl x (List.mem_of_mem_take hx), by simp only [List.length_take]; omega, rfl⟩
  · rw [if_neg h]
    exact ⟨_, rfl, hl, by simp only []; omega, rfl⟩

theorem alive_x : Evx (fun k => laws_alive.f k) (fun r => r = true) := Evx.of laws_alive.mono (k := 10) (r := true) (by decide +kernel) rfl

theorem impl_in_eq (a b c : Int) : impl_in.f a b c = some (decide (b ≤ a ∧ a ≤ c)) := by
  unfold impl_in.f
  by_cases h : b ≤ a
  · rw [if_pos h]; simp [h]
  · rw [if_neg (by omega)]; simp [h]
theorem spec_in_eq (a b c : Int) : spec_l1In.f a b c = some (decide (b ≤ a ∧ a ≤ c)) := by
  unfold spec_l1In.f
  by_cases h : b ≤ a
  · rw [if_pos h]; simp [h]
  · rw [if_neg (by omega)]; simp [h]

theorem byt_snoc {l : List Int} {x : Int} (h : Byt l) (h0 : 0 ≤ x) (h1 : x ≤ 255) : Byt (l ++ [x]) := by
  intro y hy
  rcases List.mem_append.1 hy with hy | hy
  · exact h y hy
  · rw [List.mem_singleton] at hy; omega
theorem byt_nil : Byt [] := fun x hx => by cases hx
theorem bytes_l {s : List Int} (hs : Byt s) (hm : (s.length : Int) ≤ 1000000000) (d : Nat) : ∀ (c p : Int) (o : List Int), 0 ≤ c → c = d → 0 ≤ p → p ≤ 10000000 - 2 * c → Byt o → (o.length : Int) + c ≤ 100000 →
    Evx (fun k => spec_l20Rd_bytes.l0 k c o s p) (fun r => Byt r.1 ∧ (r.1.length : Int) = o.length + c ∧ p ≤ r.2 ∧ r.2 ≤ p + 2 * c) := by
  induction d with
  | zero =>
    intro c p o c0 hd p0 p1 ho hl
    exact Evx.step (fun k => by rw [spec_l20Rd_bytes.l0]) (Evx.neg (by omega) (Evx.now ⟨ho, by simp only []; omega, by simp only []; omega, by simp only []; omega⟩))
  | succ d ih =>
    intro c p o c0 hd p0 p1 ho hl
    refine Evx.step (fun k => by rw [spec_l20Rd_bytes.l0]) (Evx.pos (by omega) ?_)
    have e1 : wrap64 (c - 1) = c - 1 := by unfold wrap64; omega
    rw [e1]
    have next : ∀ x q : Int, 0 ≤ x → x ≤ 255 → p ≤ q → q ≤ p + 2 → Evx (fun k => spec_l20Rd_bytes.l0 k (c - 1) (o ++ [x]) s q) (fun r => Byt r.1 ∧ (r.1.length : Int) = o.length + c ∧ p ≤ r.2 ∧ r.2 ≤ p + 2 * c) := by
      intro x q x0 x1 q0 q1
      refine (ih (c - 1) q (o ++ [x]) (by omega) (by omega) (by omega) (by omega) (byt_snoc ho x0 x1) (by simp; omega)).mono ?_
      rintro r ⟨r1, r2, r3, r4⟩
      refine ⟨r1, ?_, by omega, by omega⟩
      rw [r2]; simp; omega
    refine Evx.bind (pick_x hs hm _ _ (by omega) (by omega)) fun r1 q1 => ?_
    obtain ⟨e2, a2, b2, _⟩ := q1
    refine Evx.ite (fun _ => ?_) (fun _ => ?_)
    · refine Evx.bind (pick_x hs hm _ _ (by omega) (by omega)) fun r3 q3 => ?_
      obtain ⟨e3, a3, b3, _⟩ := q3
      exact Evx.pos (by omega) (next _ _ (by omega) (by omega) (by omega) (by omega))
    · refine Evx.bind (pick_x hs hm _ _ (by omega) (by omega)) fun r3 q3 => ?_
      obtain ⟨e3, a3, b3, _⟩ := q3
      exact Evx.pos (by omega) (next _ _ (by omega) (by omega) (by omega) (by omega))
theorem bytes_x {s : List Int} (hs : Byt s) (hm : (s.length : Int) ≤ 1000000000) (n a : Int) (h0 : 0 ≤ n) (h1 : n ≤ 1000000) (a0 : 0 ≤ a) (a1 : a ≤ 1000) :
    Evx (fun k => spec_l20Rd_bytes.f k s n a) (fun r => Byt r.1 ∧ (r.1.length : Int) = a ∧ n ≤ r.2 ∧ r.2 ≤ n + 2 * a) := by
  unfold spec_l20Rd_bytes.f
  exact (bytes_l hs hm a.toNat a n [] a0 (by omega) h0 (by omega) byt_nil (by simp; omega)).mono fun r hr => ⟨hr.1, by have := hr.2.1; simpa using this, hr.2.2⟩

theorem key_x {s : List Int} (hs : Byt s) (hm : (s.length : Int) ≤ 1000000000) (n : Int) (h0 : 0 ≤ n) (h1 : n ≤ 1000) :
    Evx (fun k => spec_l20Rd_key.f k s n) (fun r => n ≤ r.2 ∧ r.2 ≤ n + 3 ∧ 0 ≤ r.1 ∧ r.1 ≤ 65521) := by
  unfold spec_l20Rd_key.f
  refine Evx.bind (pick_x hs hm _ _ (by omega) (by omega)) fun r1 p1 => ?_
  obtain ⟨e1, a1, b1, _⟩ := p1
  refine Evx.bind (pick_x hs hm _ _ (by omega) (by omega)) fun r2 p2 => ?_
  obtain ⟨e2, a2, b2, _⟩ := p2
  have b1 := b1 (by omega)
  have b2 := b2 (by omega)
  simp only [Option.bind_some]
  refine Evx.bind (pick_x hs hm _ _ (by omega) (by omega)) fun r3 p3 => ?_
  obtain ⟨e3, a3, b3, _⟩ := p3
  have b3 := b3 (by omega)
  refine Evx.pos a3 (Evx.pos (by simp; omega) (Evx.now ⟨by simp only []; omega, by simp only []; omega, ?_⟩))
  have f1 : wrap64 (3 + r1.1) = 3 + r1.1 := by unfold wrap64; omega
  have f2 : wrap64 (r2.1 * 65521) = r2.1 * 65521 := by unfold wrap64; omega
  have f3 : wrap64 (65521 - r2.1 * 65521) = 65521 - r2.1 * 65521 := by unfold wrap64; omega
  rw [f1, f2, f3]
  have : r3.1 = 0 ∨ r3.1 = 1 ∨ r3.1 = 2 ∨ r3.1 = 3 ∨ r3.1 = 4 := by omega
  rcases this with h | h | h | h | h <;> rw [h] <;> simp [rd] <;> omega

/-- One byte more goes into a seal. -/
def Stp (key x b : Int) : Int := (x * key + b + 1) % 65521
def Fld (key x : Int) (l : List Int) : Int := l.foldl (Stp key) x
/-- The seal of bytes. -/
def Seal (key n : Int) (l : List Int) (last : Bool) : Int := Fld key (n + 1) (l ++ [if last then 1 else 0]) * key % 65521
/-- What can be sealed. -/
def Sok (key n : Int) (l : List Int) : Prop := (1 ≤ key ∧ key ≤ 65520) ∧ (0 ≤ n ∧ n ≤ 1000) ∧ l.length ≤ 10
instance (key n : Int) (l : List Int) : Decidable (Sok key n l) := by unfold Sok; infer_instance
def SealR (key n : Int) (l : List Int) (last : Bool) : Int := if Sok key n l then Seal key n l last else -1
theorem stp_rng (key x b : Int) : 0 ≤ Stp key x b ∧ Stp key x b < 65521 := by unfold Stp; omega
theorem mul_rng {key x : Int} (k0 : 1 ≤ key) (k1 : key ≤ 65520) (x0 : 0 ≤ x) (x1 : x < 65521) : 0 ≤ x * key ∧ x * key ≤ 4292870400 := by
  refine ⟨Int.mul_nonneg x0 (by omega), ?_⟩
  have := Int.mul_le_mul (show x ≤ 65520 by omega) k1 (by omega) (by omega)
  omega
theorem go_stp {key x b : Int} (k0 : 1 ≤ key) (k1 : key ≤ 65520) (x0 : 0 ≤ x) (x1 : x < 65521) (b0 : 0 ≤ b) (b1 : b ≤ 255) :
    Int.tmod (wrap64 ((wrap64 ((wrap64 (x * key)) + b)) + 1)) 65521 = Stp key x b := by
  have := mul_rng k0 k1 x0 x1
  unfold Stp
  generalize x * key = z at this ⊢
  have e1 : wrap64 z = z := by unfold wrap64; omega
  have e2 : wrap64 (z + b) = z + b := by unfold wrap64; omega
  have e3 : wrap64 (z + b + 1) = z + b + 1 := by unfold wrap64; omega
  rw [e1, e2, e3, Int.tmod_eq_emod_of_nonneg (by omega)]
theorem go_last {key x : Int} (k0 : 1 ≤ key) (k1 : key ≤ 65520) (x0 : 0 ≤ x) (x1 : x < 65521) : Int.tmod (wrap64 (x * key)) 65521 = x * key % 65521 := by
  have := mul_rng k0 k1 x0 x1
  generalize x * key = z at this ⊢
  have e1 : wrap64 z = z := by unfold wrap64; omega
  rw [e1, Int.tmod_eq_emod_of_nonneg (by omega)]
theorem fld_rng {key : Int} (l : List Int) : ∀ {x : Int}, 0 ≤ x → x < 65521 → 0 ≤ Fld key x l ∧ Fld key x l < 65521 := by
  induction l with
  | nil => intro x h0 h1; exact ⟨h0, h1⟩
  | cons b l ih => intro x h0 h1; exact ih (stp_rng key x b).1 (stp_rng key x b).2
theorem rd_drop {l : List Int} {i : Int} (h0 : 0 ≤ i) (h1 : i < l.length) : l.drop i.toNat = rd l i :: l.drop (i + 1).toNat := by
  have hi : i.toNat < l.length := by omega
  rw [List.drop_eq_getElem_cons hi]
  unfold rd
  rw [List.getD_eq_getElem?_getD, List.getElem?_eq_getElem hi]
  have : (i + 1).toNat = i.toNat + 1 := by omega
  rw [this]; rfl
theorem w_byte {b : Int} (h : 0 ≤ b ∧ b ≤ 255) : wrap64 b = b := by unfold wrap64; omega
theorem impl_seal_l {key : Int} (k0 : 1 ≤ key) (k1 : key ≤ 65520) {y : List Int} (hy : Byt y) (hl : (y.length : Int) ≤ 1000) (d : Nat) : ∀ x i : Int, 0 ≤ x → x < 65521 → 0 ≤ i → i ≤ y.length → y.length - i = d →
    Evx (fun k => impl_SealOf.l0 k key x y (y.length : Int) i) (fun r => r = Fld key x (y.drop i.toNat) * key % 65521) := by
  induction d with
  | zero =>
    intro x i x0 x1 i0 i1 hd
    refine Evx.step (fun k => by rw [impl_SealOf.l0]) (Evx.neg (by omega) (Evx.now ?_))
    rw [go_last k0 k1 x0 x1, List.drop_of_length_le (by omega)]; rfl
  | succ d ih =>
    intro x i x0 x1 i0 i1 hd
    refine Evx.step (fun k => by rw [impl_SealOf.l0]) (Evx.pos (by omega) (Evx.pos i0 (Evx.pos (by omega) ?_)))
    have hb := byt_rd hy i
    have e : wrap64 (i + 1) = i + 1 := by unfold wrap64; omega
    rw [w_byte hb, go_stp k0 k1 x0 x1 hb.1 hb.2, e, rd_drop i0 (by omega)]
    exact ih _ _ (stp_rng _ _ _).1 (stp_rng _ _ _).2 (by omega) (by omega) (by omega)
theorem impl_seal_x (key n : Int) {l : List Int} (hl : Byt l) (hn : (l.length : Int) ≤ 100000000) (last : Bool) : Evx (fun k => impl_SealOf.f k key n l last) (fun r => r = SealR key n l last) := by
  have hok : impl_sealOk.f key n l = some (decide (Sok key n l)) := by
    unfold impl_sealOk.f
    simp only [impl_in_eq, Option.bind_some]
    by_cases h : 1 ≤ key ∧ key ≤ 65520
    · rw [if_pos (by simpa using h)]
      by_cases h2 : 0 ≤ n ∧ n ≤ 1000
      · rw [if_pos (by simpa using h2)]
        have e : ((l.length : Int) ≤ 10) ↔ l.length ≤ 10 := by omega
        simp [Sok, h, h2, e]
      · rw [if_neg (by simpa using h2)]; simp [Sok, h, h2]
    · rw [if_neg (by simpa using h)]; simp [Sok, h]
  have hbit : impl_bit.f last 1 = some (if last then 1 else 0) := by
    unfold impl_bit.f; cases last <;> rfl
  unfold impl_SealOf.f
  rw [hok, hbit]; simp only [Option.bind_some]
  refine Evx.ite (fun h => ?_) (fun h => Evx.now ?_)
  · have h : Sok key n l := by simpa using h
    refine Evx.pos (by simp; omega) (Evx.pos (by simp; omega) ?_)
    have e1 : wrap64 (n + 1) = n + 1 := by have := h.2.1; unfold wrap64; omega
    have e2 : (if last = true then (1 : Int) else 0) % 256 = if last then 1 else 0 := by cases last <;> rfl
    rw [e1, e2, List.nil_append]
    have hy : Byt (l ++ [if last = true then (1 : Int) else 0]) := by
      intro x hx
      rcases List.mem_append.1 hx with hx | hx
      · exact hl x hx
      · rw [List.mem_singleton] at hx; cases last <;> simp at hx <;> omega
    have hlen : ((l ++ [if last = true then (1 : Int) else 0]).length : Int) = l.length + 1 := by simp
    have := h.2.1
    have h3 := h.2.2
    refine (impl_seal_l h.1.1 h.1.2 hy (by rw [hlen]; omega) (l ++ [if last = true then (1 : Int) else 0]).length (n + 1) 0 (by omega) (by omega) (by omega) (by omega) (by omega)).mono ?_
    intro r hr
    rw [hr]; unfold SealR Seal; rw [if_pos h]; rfl
  · have h : ¬ Sok key n l := by simpa using h
    unfold SealR; rw [if_neg h]
theorem fld_snoc (key x b : Int) (l : List Int) : Fld key x (l ++ [b]) = Stp key (Fld key x l) b := by simp [Fld]
theorem spec_seal_l {key : Int} (k0 : 1 ≤ key) (k1 : key ≤ 65520) {y : List Int} (hy : Byt y) (hl : (y.length : Int) ≤ 1000) (last : Bool) (d : Nat) : ∀ x i : Int, 0 ≤ x → x < 65521 → 0 ≤ i → i ≤ y.length → y.length - i = d →
    Evx (fun k => spec_SealOf.l0 k key y last x i) (fun r => r = Fld key x (y.drop i.toNat ++ [if last then 1 else 0]) * key % 65521) := by
  induction d with
  | zero =>
    intro x i x0 x1 i0 i1 hd
    refine Evx.step (fun k => by rw [spec_SealOf.l0]) (Evx.neg (by omega) ?_)
    rw [List.drop_of_length_le (by omega), List.nil_append, go_stp k0 k1 x0 x1 (by omega) (by omega : (1 : Int) ≤ 255), go_stp k0 k1 x0 x1 (by omega) (by omega : (0 : Int) ≤ 255)]
    rw [go_last k0 k1 (stp_rng _ _ _).1 (stp_rng _ _ _).2, go_last k0 k1 (stp_rng _ _ _).1 (stp_rng _ _ _).2]
    cases last
    · exact Evx.neg (by simp) (Evx.now rfl)
    · exact Evx.pos rfl (Evx.now rfl)
  | succ d ih =>
    intro x i x0 x1 i0 i1 hd
    refine Evx.step (fun k => by rw [spec_SealOf.l0]) (Evx.pos (by omega) (Evx.pos i0 ?_))
    have hb := byt_rd hy i
    have e : wrap64 (i + 1) = i + 1 := by unfold wrap64; omega
    rw [w_byte hb, go_stp k0 k1 x0 x1 hb.1 hb.2, e, rd_drop i0 (by omega)]
    exact ih _ _ (stp_rng _ _ _).1 (stp_rng _ _ _).2 (by omega) (by omega) (by omega)
theorem spec_seal_x (key n : Int) {l : List Int} (hl : Byt l) (last : Bool) : Evx (fun k => spec_SealOf.f k key n l last) (fun r => r = SealR key n l last) := by
  unfold spec_SealOf.f
  simp only [spec_in_eq, Option.bind_some]
  have no : ¬ Sok key n l → Evx (fun k => spec_SealOf.j0 k key n l last true) (fun r => r = SealR key n l last) := by
    intro h
    refine Evx.step (fun k => by rw [spec_SealOf.j0]) (Evx.pos rfl (Evx.now ?_))
    unfold SealR; rw [if_neg h]
  refine Evx.ite (fun h => Evx.ite (fun h2 => ?_) (fun h2 => no ?_)) (fun h => no ?_)
  · have h : 1 ≤ key ∧ key ≤ 65520 := by simpa using h
    have h2 : 0 ≤ n ∧ n ≤ 1000 := by simpa using h2
    by_cases h3 : (l.length : Int) > 10
    · rw [decide_eq_true h3]
      exact no (fun q => by have := q.2.2; omega)
    · rw [decide_eq_false h3]
      refine Evx.step (fun k => by rw [spec_SealOf.j0]) (Evx.neg (by simp) ?_)
      have e1 : wrap64 (n + 1) = n + 1 := by unfold wrap64; omega
      rw [e1]
      refine (spec_seal_l h.1 h.2 hl (by omega) last l.length (n + 1) 0 (by omega) (by omega) (by omega) (by omega) (by omega)).mono ?_
      intro r hr
      rw [hr]; unfold SealR Seal; rw [if_pos (show Sok key n l from ⟨h, h2, by omega⟩)]; rfl
  · intro q; exact absurd q.2.1 (by simpa using h2)
  · intro q; exact absurd q.1 (by simpa using h)
theorem seal_rng {key n : Int} {l : List Int} (last : Bool) (h : Sok key n l) : 0 ≤ SealR key n l last ∧ SealR key n l last < 65521 := by
  unfold SealR; rw [if_pos h]; unfold Seal; omega

theorem byt_take {l : List Int} (h : Byt l) (n : Nat) : Byt (l.take n) := fun x hx => h x (List.mem_of_mem_take hx)
theorem byt_drop {l : List Int} (h : Byt l) (n : Nat) : Byt (l.drop n) := fun x hx => h x (List.mem_of_mem_drop hx)
theorem byt_app {l m : List Int} (h : Byt l) (k : Byt m) : Byt (l ++ m) := fun x hx => (List.mem_append.1 hx).elim (h x) (k x)

/-- The two bytes of a seal. -/
def Tail (s : Int) : List Int := [s / 256 % 256, s % 256]
/-- A record as bytes. -/
def RecR (key n : Int) (l : List Int) (last : Bool) : List Int :=
  if Sok key n l then ((l.length : Int) + (if last then 128 else 0)) :: (l ++ Tail (SealR key n l last)) else []
theorem sealr_no {key n : Int} {l : List Int} {last : Bool} (h : ¬ Sok key n l) : SealR key n l last = -1 := by unfold SealR; rw [if_neg h]
theorem spec_tail {s : Int} (s0 : 0 ≤ s) (s1 : s < 65521) : Evx (fun k => spec_BytesOf.f k s 2) (fun r => r = Tail s) := by
  unfold spec_BytesOf.f
  simp only [spec_in_eq, Option.bind_some]
  have a1 : decide (1 ≤ (2 : Int) ∧ (2 : Int) ≤ 4) = true := rfl
  have a2 : wrap64 (8 * 2) = 16 := by unfold wrap64; omega
  have a3 : wrap64 (shl .i64 1 16 - 1) = 65535 := by kernel_rfl
  have a4 : decide (0 ≤ s ∧ s ≤ 65535) = true := decide_eq_true (by omega)
  rw [a1, a2, a3, a4]
  refine Evx.pos rfl (Evx.pos (by omega) ?_)
  refine Evx.step (fun k => by rw [spec_BytesOf.j0]) (Evx.neg (by simp) ?_)
  refine Evx.step (fun k => by rw [spec_BytesOf.l0]) (Evx.pos (by unfold wrap64; omega) (Evx.pos (by unfold wrap64; omega) (Evx.pos (by simp) ?_)))
  refine Evx.step (fun k => by rw [spec_BytesOf.l0]) (Evx.pos (by unfold wrap64; omega) (Evx.pos (by unfold wrap64; omega) (Evx.pos (by simp) ?_)))
  refine Evx.step (fun k => by rw [spec_BytesOf.l0]) (Evx.neg (by unfold wrap64; omega) (Evx.now ?_))
  have b1 : wrap64 (8 * wrap64 (2 - 1)) = 8 := by unfold wrap64; omega
  have b2 : wrap64 (8 * wrap64 (wrap64 (2 - 1) - 1)) = 0 := by unfold wrap64; omega
  have s8 : shr .i64 s 8 = s / 256 := by unfold shr; rw [show (2 : Int) ^ (min (8 : Int).toNat IntKind.i64.bits) = 256 from by kernel_rfl]
  have s0' : shr .i64 s 0 = s := by unfold shr; rw [show (2 : Int) ^ (min (0 : Int).toNat IntKind.i64.bits) = 1 from by kernel_rfl, Int.ediv_one]
  rw [b1, b2, s8, s0', Int.tmod_eq_emod_of_nonneg (by omega), Int.tmod_eq_emod_of_nonneg (by omega)]
  unfold Tail
  simp
theorem recr_len (key n : Int) (l : List Int) (last : Bool) : (RecR key n l last).length ≤ 13 := by
  unfold RecR
  by_cases h : Sok key n l
  · rw [if_pos h]; have := h.2.2; simp [Tail]; omega
  · rw [if_neg h]; simp
theorem byt_tail (s : Int) : Byt (Tail s) := by
  intro x hx
  simp [Tail] at hx
  rcases hx with hx | hx <;> omega
theorem recr_byt {key n : Int} {l : List Int} (hl : Byt l) (last : Bool) : Byt (RecR key n l last) := by
  unfold RecR
  by_cases h : Sok key n l
  · rw [if_pos h]
    have := h.2.2
    intro x hx
    rcases List.mem_cons.1 hx with hx | hx
    · cases last <;> simp at hx <;> omega
    · rcases List.mem_append.1 hx with hx | hx
      · exact hl x hx
      · exact byt_tail _ x hx
  · rw [if_neg h]; exact byt_nil
theorem spec_record_x (key n : Int) {l : List Int} (hl : Byt l) (hn : (l.length : Int) ≤ 100000000) (last : Bool) : Evx (fun k => spec_RecordBytes.f k key n l last) (fun r => r = RecR key n l last) := by
  unfold spec_RecordBytes.f
  refine Evx.bind (spec_seal_x key n hl last) fun s hs => ?_
  by_cases h : Sok key n l
  · have h0 := seal_rng last h
    rw [← hs] at h0
    refine Evx.neg (by omega) ?_
    have h3 := h.2.2
    simp only [Option.bind_some]
    unfold RecR
    rw [if_pos h, ← hs]
    cases last
    · refine Evx.neg (by simp) (Evx.pos (by simp; omega) ?_)
      refine Evx.bind (spec_tail h0.1 h0.2) fun t ht => ?_
      subst ht
      refine Evx.pos (by simp [Tail]; omega) (Evx.now ?_)
      have e : (l.length : Int) % 256 = (l.length : Int) := by omega
      rw [e]; simp
    · refine Evx.pos rfl (Evx.pos (by simp; omega) ?_)
      refine Evx.bind (spec_tail h0.1 h0.2) fun t ht => ?_
      subst ht
      refine Evx.pos (by simp [Tail]; omega) (Evx.now ?_)
      have e : wrap64 ((l.length : Int) + 128) % 256 = (l.length : Int) + 128 := by unfold wrap64; omega
      rw [e]; simp
  · rw [sealr_no h] at hs
    refine Evx.pos (by omega) (Evx.now ?_)
    unfold RecR; rw [if_neg h]

theorem impl_tail (s : Int) : Evx (fun k => impl_bytesOf.f k s 2) (fun r => r = Tail s) := by
  unfold impl_bytesOf.f
  refine Evx.pos (by omega) (Evx.pos (by omega) ?_)
  refine Evx.step (fun k => by rw [impl_bytesOf.l0]) (Evx.pos (by unfold wrap64; omega) (Evx.pos (by unfold wrap64; omega) (Evx.pos (by simp [wrap64]) ?_)))
  refine Evx.step (fun k => by rw [impl_bytesOf.l0]) (Evx.pos (by unfold wrap64; omega) (Evx.pos (by unfold wrap64; omega) (Evx.pos (by simp [wrap64]) ?_)))
  refine Evx.step (fun k => by rw [impl_bytesOf.l0]) (Evx.neg (by unfold wrap64; omega) (Evx.now ?_))
  rw [show (wrap64 (2 - 1)).toNat = 1 from by unfold wrap64; omega, show (wrap64 (wrap64 (2 - 1) - 1)).toNat = 0 from by unfold wrap64; omega]
  rfl
theorem impl_record_x (key n : Int) {l : List Int} (hl : Byt l) (hn : (l.length : Int) ≤ 100000000) (last : Bool) : Evx (fun k => impl_RecordBytes.f k key n l last) (fun r => r = RecR key n l last) := by
  unfold impl_RecordBytes.f
  refine Evx.bind (impl_seal_x key n hl hn last) fun s hs => ?_
  by_cases h : Sok key n l
  · have h0 := seal_rng last h
    rw [← hs] at h0
    refine Evx.neg (by omega) ?_
    have hbit : impl_bit.f last 128 = some (if last then 128 else 0) := by unfold impl_bit.f; cases last <;> rfl
    rw [hbit]; simp only [Option.bind_some]
    refine Evx.bind (impl_tail s) fun t ht => ?_
    subst ht
    refine Evx.pos (by simp; omega) (Evx.pos (by simp [Tail]; omega) (Evx.now ?_))
    have h3 := h.2.2
    unfold RecR
    rw [if_pos h, ← hs]
    have e : wrap64 ((l.length : Int) + (if last = true then 128 else 0)) % 256 = (l.length : Int) + (if last = true then 128 else 0) := by cases last <;> simp [wrap64] <;> omega
    rw [e]
    simp
  · rw [sealr_no h] at hs
    refine Evx.pos (by omega) (Evx.now ?_)
    unfold RecR; rw [if_neg h]

/-- Bytes as a stream of records, from the record n on. -/
def Strm (key : Int) : Nat → Int → List Int → List Int
  | 0, _, _ => []
  | d + 1, n, l => if l.length > 10 then RecR key n (l.take 10) false ++ Strm key d (n + 1) (l.drop 10) else RecR key n l true
theorem strm_len (key : Int) : ∀ (d : Nat) (n : Int) (l : List Int), (Strm key d n l).length ≤ 2 * l.length + 13 := by
  intro d
  induction d with
  | zero => intro n l; simp [Strm]
  | succ d ih =>
    intro n l
    unfold Strm
    by_cases h : l.length > 10
    · rw [if_pos h, List.length_append]
      have h1 := recr_len key n (l.take 10) false
      have h2 := ih (n + 1) (l.drop 10)
      rw [List.length_drop] at h2
      omega
    · rw [if_neg h]; have := recr_len key n l true; omega
theorem strm_byt (key : Int) : ∀ (d : Nat) (n : Int) (l : List Int), Byt l → Byt (Strm key d n l) := by
  intro d
  induction d with
  | zero => intro n l hl; exact byt_nil
  | succ d ih =>
    intro n l hl
    unfold Strm
    by_cases h : l.length > 10
    · rw [if_pos h]; exact byt_app (recr_byt (byt_take hl _) _) (ih _ _ (byt_drop hl _))
    · rw [if_neg h]; exact recr_byt hl _
/-- What Sealed returns. -/
def SealedR (key : Int) (l : List Int) : List Int := if (1 ≤ key ∧ key ≤ 65520) ∧ l.length ≤ 1000 then Strm key 1001 0 l else []
theorem sealedr_len (key : Int) (l : List Int) : (SealedR key l).length ≤ 2013 := by
  unfold SealedR
  by_cases h : (1 ≤ key ∧ key ≤ 65520) ∧ l.length ≤ 1000
  · rw [if_pos h]; have := strm_len key 1001 0 l; omega
  · rw [if_neg h]; simp

theorem impl_sealed_l (key : Int) (d : Nat) : ∀ (x out : List Int) (n : Int), x.length < d → Byt x → 0 ≤ n → n + x.length ≤ 1000 → out.length + 2 * x.length ≤ 2000 →
    Evx (fun k => impl_Sealed.l0 k key x out n) (fun r => r = out ++ Strm key d n x) := by
  induction d with
  | zero => intro x out n h; omega
  | succ d ih =>
    intro x out n h hb n0 hn ho
    refine Evx.step (fun k => by rw [impl_Sealed.l0]) ?_
    refine Evx.ite (fun c => Evx.pos (by omega) ?_) (fun c => ?_)
    · have ht : (x.take 10).length = 10 := by rw [List.length_take]; omega
      have hr := recr_len key n (x.take 10) false
      refine Evx.bind (impl_record_x key n (byt_take hb 10) (by omega) false) fun r hr' => ?_
      subst hr'
      have e : wrap64 (n + 1) = n + 1 := by unfold wrap64; omega
      rw [e]
      refine Evx.pos (by omega) ((ih _ _ _ (by rw [List.length_drop]; omega) (byt_drop hb 10) (by omega) (by rw [List.length_drop]; omega) (by rw [List.length_drop, List.length_append]; omega)).mono fun r hr' => ?_)
      rw [hr', Strm, if_pos (by omega), List.append_assoc]
    · have hr := recr_len key n x true
      refine Evx.bind (impl_record_x key n hb (by omega) true) fun r hr' => ?_
      subst hr'
      refine Evx.pos (by omega) (Evx.now ?_)
      rw [Strm, if_neg (by omega)]
theorem impl_sealed_x (key : Int) {l : List Int} (hl : Byt l) : Evx (fun k => impl_Sealed.f k key l) (fun r => r = SealedR key l) := by
  have hok : impl_sealOk.f key 0 [] = some (decide (1 ≤ key ∧ key ≤ 65520)) := by
    unfold impl_sealOk.f
    simp only [impl_in_eq, Option.bind_some]
    by_cases h : 1 ≤ key ∧ key ≤ 65520
    · rw [if_pos (by simpa using h)]; simp [h]
    · rw [if_neg (by simpa using h)]; simp [h]
  unfold impl_Sealed.f
  rw [hok]; simp only [Option.bind_some]
  unfold SealedR
  refine Evx.ite (fun h => ?_) (fun h => ?_)
  · have h : 1 ≤ key ∧ key ≤ 65520 := by simpa using h
    refine Evx.step (fun k => by rw [impl_Sealed.j0]) ?_
    refine Evx.ite (fun c => Evx.now ?_) (fun c => ?_)
    · have c : (l.length : Int) > 1000 := by simpa using c
      rw [if_neg (fun q => by omega)]
    · have c : ¬ (l.length : Int) > 1000 := by simpa using c
      rw [if_pos ⟨h, by omega⟩]
      refine (impl_sealed_l key 1001 l [] 0 (by omega) hl (by omega) (by omega) (by simp; omega)).mono fun r hr => ?_
      rw [hr]; rfl
  · have h : ¬ (1 ≤ key ∧ key ≤ 65520) := by simpa using h
    refine Evx.step (fun k => by rw [impl_Sealed.j0]) (Evx.pos rfl (Evx.now ?_))
    rw [if_neg (fun q => h q.1)]

theorem spec_sealed_l (key : Int) {l : List Int} (hb : Byt l) (hl : l.length ≤ 1000) (d : Nat) : ∀ (out : List Int) (n a : Int), (l.length : Int) - a < d → 0 ≤ a → a ≤ l.length → (a = 0 ∨ a < l.length) → 0 ≤ n → n ≤ a → (out.length : Int) ≤ 2 * a →
    Evx (fun k => spec_Sealed.l0 k key l out n a) (fun r => r = out ++ Strm key d n (l.drop a.toNat)) := by
  induction d with
  | zero => intro out n a h; omega
  | succ d ih =>
    intro out n a h a0 a1 hc n0 hn ho
    have e10 : wrap64 (a + 10) = a + 10 := by unfold wrap64; omega
    have en : wrap64 (n + 1) = n + 1 := by unfold wrap64; omega
    have body : Evx (fun k => (if 0 ≤ a then (if a ≤ (mn (wrap64 (a + 10)) (l.length : Int)) then (if (mn (wrap64 (a + 10)) (l.length : Int)) ≤ (l.length : Int) then ((spec_RecordBytes.f k key n ((l.take ((mn (wrap64 (a + 10)) (l.length : Int)) : Int).toNat).drop (a : Int).toNat) ((mn (wrap64 (a + 10)) (l.length : Int)) == (l.length : Int))).bind fun t157 => (if out.length + t157.length < 140737488355328 then (spec_Sealed.l0 k key l (out ++ t157) (wrap64 (n + 1)) (wrap64 (a + 10))) else (none))) else (none)) else (none)) else (none))) (fun r => r = out ++ Strm key (d + 1) n (l.drop a.toNat)) := by
      rw [e10, en]
      have hdl : (l.drop a.toNat).length = l.length - a.toNat := List.length_drop
      by_cases c : (l.drop a.toNat).length > 10
      · have em : mn (a + 10) (l.length : Int) = a + 10 := by unfold mn; exact if_neg (by omega)
        have et : (l.take (a + 10).toNat).drop a.toNat = (l.drop a.toNat).take 10 := by
          rw [List.drop_take]; congr 1; omega
        have eb : ((a + 10) == (l.length : Int)) = false := by simp; omega
        rw [em, et, eb]
        have hr := recr_len key n ((l.drop a.toNat).take 10) false
        refine Evx.pos a0 (Evx.pos (by omega) (Evx.pos (by omega) ?_))
        refine Evx.bind (spec_record_x key n (byt_take (byt_drop hb _) 10) (by rw [List.length_take]; omega) false) fun r hr' => ?_
        subst hr'
        refine Evx.pos (by omega) ((ih _ _ _ (by omega) (by omega) (by omega) (by omega) (by omega) (by omega) (by rw [List.length_append]; omega)).mono fun r hr' => ?_)
        rw [hr', Strm, if_pos c, List.append_assoc, List.drop_drop]
        congr 4; omega
      · have em : mn (a + 10) (l.length : Int) = l.length := by unfold mn; split <;> omega
        have eb : ((l.length : Int) == (l.length : Int)) = true := by simp
        rw [em, eb, Int.toNat_natCast, List.take_length]
        have hr := recr_len key n (l.drop a.toNat) true
        refine Evx.pos a0 (Evx.pos (by omega) (Evx.pos (by omega) ?_))
        refine Evx.bind (spec_record_x key n (byt_drop hb _) (by omega) true) fun r hr' => ?_
        subst hr'
        refine Evx.pos (by omega) ?_
        refine Evx.step (fun k => by rw [spec_Sealed.l0]) (Evx.neg (by omega) (Evx.neg (by omega) (Evx.now ?_)))
        rw [Strm, if_neg c]
    refine Evx.step (fun k => by rw [spec_Sealed.l0]) ?_
    exact Evx.ite (fun _ => body) (fun c => Evx.pos (by omega) body)
theorem spec_sealed_x (key : Int) {l : List Int} (hl : Byt l) : Evx (fun k => spec_Sealed.f k key l) (fun r => r = SealedR key l) := by
  unfold spec_Sealed.f
  simp only [spec_in_eq, Option.bind_some]
  unfold SealedR
  refine Evx.ite (fun h => ?_) (fun h => ?_)
  · have h : 1 ≤ key ∧ key ≤ 65520 := by simpa using h
    refine Evx.step (fun k => by rw [spec_Sealed.j0]) ?_
    refine Evx.ite (fun c => Evx.now ?_) (fun c => ?_)
    · have c : (l.length : Int) > 1000 := by simpa using c
      rw [if_neg (fun q => by omega)]
    · have c : ¬ (l.length : Int) > 1000 := by simpa using c
      rw [if_pos ⟨h, by omega⟩]
      refine (spec_sealed_l key hl (by omega) 1001 [] 0 0 (by omega) (by omega) (by omega) (by omega) (by omega) (by omega) (by simp)).mono fun r hr => ?_
      rw [hr]; rfl
  · have h : ¬ (1 ≤ key ∧ key ≤ 65520) := by simpa using h
    refine Evx.step (fun k => by rw [spec_Sealed.j0]) (Evx.pos rfl (Evx.now ?_))
    rw [if_neg (fun q => h q.1)]

theorem or_byte {x y : Int} (hx : 0 ≤ x) (hx1 : x < 1000000) (hy : 0 ≤ y) (hy1 : y < 256) : Go.bits .or .i64 (x * 256) y = x * 256 + y := by
  obtain ⟨a, rfl⟩ := Int.eq_ofNat_of_zero_le hx
  obtain ⟨b, rfl⟩ := Int.eq_ofNat_of_zero_le hy
  have hb : b < 2 ^ 8 := by omega
  have hor := Nat.shiftLeft_add_eq_or_of_lt hb a
  rw [Nat.shiftLeft_eq] at hor
  have ea : ((a : Int) * 256) = ((a * 2 ^ 8 : Nat) : Int) := by omega
  rw [ea]
  unfold Go.bits
  simp only [BitVec.ofInt_natCast, BitVec.toNat_or, BitVec.toNat_ofNat]
  rw [IntKind.wrap_i64]
  have e : IntKind.i64.bits = 64 := rfl
  rw [e, Nat.mod_eq_of_lt (by omega), Nat.mod_eq_of_lt (by omega), ← hor]
  omega
/-- The number of two bytes. -/
def Num (b : List Int) (i : Int) : Int := rd b i * 256 + rd b (i + 1)
theorem rd_cut {b : List Int} {i j : Int} {m : Nat} (i0 : 0 ≤ i) (j0 : 0 ≤ j) (h : i + j < m) (hm : m ≤ b.length) : rd ((b.take m).drop i.toNat) j = rd b (i + j) := by
  unfold rd
  rw [List.getD_eq_getElem?_getD, List.getD_eq_getElem?_getD, List.getElem?_drop, List.getElem?_take, if_pos (by omega)]
  congr 2; omega
theorem impl_num_x {b : List Int} (hb : Byt b) (hm : (b.length : Int) ≤ 100000000) {i : Int} (i0 : 0 ≤ i) (i1 : i + 2 ≤ b.length) : Evx (fun k => impl_NumberAt.f k b i 2) (fun r => r = Num b i) := by
  have e1 : wrap64 ((b.length : Int) - 2) = b.length - 2 := by unfold wrap64; omega
  have e2 : wrap64 (i + 2) = i + 2 := by unfold wrap64; omega
  unfold impl_NumberAt.f
  simp only [impl_in_eq, Option.bind_some]
  rw [e1, decide_eq_false (show ¬ i > (b.length : Int) - 2 by omega)]
  refine Evx.pos (by simp) (Evx.neg (by omega) ?_)
  refine Evx.step (fun k => by rw [impl_NumberAt.j0]) ?_
  rw [e2]
  refine Evx.neg (by simp) (Evx.pos i0 (Evx.pos (by omega) (Evx.pos (by omega) ?_)))
  have hl : ((((b.take (i + 2).toNat).drop i.toNat).length : Nat) : Int) = 2 := by rw [List.length_drop, List.length_take]; omega
  have r0 : rd ((b.take (i + 2).toNat).drop i.toNat) 0 = rd b i := by rw [rd_cut i0 (by omega) (by omega) (by omega)]; congr 1; omega
  have r1 : rd ((b.take (i + 2).toNat).drop i.toNat) 1 = rd b (i + 1) := rd_cut i0 (by omega) (by omega) (by omega)
  generalize (b.take (i + 2).toNat).drop i.toNat = s at hl r0 r1 ⊢
  have h0 := byt_rd hb i
  have h1 := byt_rd hb (i + 1)
  rw [hl]
  refine Evx.step (fun k => by rw [impl_NumberAt.l0]) (Evx.pos (by omega) (Evx.pos (by omega) (Evx.pos (by omega) ?_)))
  have w1 : wrap64 (0 + 1) = 1 := by unfold wrap64; omega
  have w2 : wrap64 (1 + 1) = 2 := by unfold wrap64; omega
  have w3 : wrap64 (0 * 256) = 0 * 256 := by unfold wrap64; omega
  rw [w1, r0, w_byte h0, w3, or_byte (by omega) (by omega) h0.1 (by omega)]
  refine Evx.step (fun k => by rw [impl_NumberAt.l0]) (Evx.pos (by omega) (Evx.pos (by omega) (Evx.pos (by omega) ?_)))
  have w4 : wrap64 ((0 * 256 + rd b i) * 256) = rd b i * 256 := by unfold wrap64; omega
  rw [w2, r1, w_byte h1, w4, or_byte (by omega) (by omega) h1.1 (by omega)]
  refine Evx.step (fun k => by rw [impl_NumberAt.l0]) ?_
  exact Evx.neg (by omega) (Evx.now rfl)
/-- Whether a key and a number are some. -/
def Kok (key n : Int) : Prop := (1 ≤ key ∧ key ≤ 65520) ∧ (0 ≤ n ∧ n ≤ 1000)
instance (key n : Int) : Decidable (Kok key n) := by unfold Kok; infer_instance
/-- What is behind the head of a record. -/
def Dat (b : List Int) : List Int := (b.take (rd b 0 % 128 + 1).toNat).drop 1
/-- What RecordFrom returns. -/
def FromR (key n : Int) (b : List Int) : List Int × Bool × Int :=
  if Kok key n then
    if b.length = 0 then ([], false, 0)
    else if rd b 0 % 128 > 10 then ([], false, -1)
    else if (b.length : Int) < rd b 0 % 128 + 3 then ([], false, 0)
    else if Num b (rd b 0 % 128 + 1) = SealR key n (Dat b) (decide (rd b 0 ≥ 128)) then (Dat b, decide (rd b 0 ≥ 128), rd b 0 % 128 + 3)
    else ([], false, -1)
  else ([], false, -1)
theorem clone_eq {l : List Int} (h : (l.length : Int) ≤ 100000000) : impl_clone_byte.f l = some l := by
  unfold impl_clone_byte.f
  by_cases c : (l.length : Int) = 0
  · have e : l = [] := List.length_eq_zero_iff.1 (by omega)
    subst e; rw [if_pos c]
  · rw [if_neg c]; simp only [Option.bind_some]; rw [if_pos (by simp; omega)]; simp
theorem sealok_nil (key n : Int) : impl_sealOk.f key n [] = some (decide (Kok key n)) := by
  unfold impl_sealOk.f
  simp only [impl_in_eq, Option.bind_some]
  by_cases h : 1 ≤ key ∧ key ≤ 65520
  · rw [if_pos (by simpa using h)]
    by_cases h2 : 0 ≤ n ∧ n ≤ 1000
    · rw [if_pos (by simpa using h2)]; simp [Kok, h, h2]
    · rw [if_neg (by simpa using h2)]; simp [Kok, h, h2]
  · rw [if_neg (by simpa using h)]; simp [Kok, h]
theorem dat_len {b : List Int} (h0 : 0 ≤ rd b 0 % 128) (h1 : rd b 0 % 128 ≤ 10) : (Dat b).length ≤ 10 := by
  unfold Dat; rw [List.length_drop, List.length_take]; omega
theorem impl_from_x (key n : Int) {b : List Int} (hb : Byt b) (hm : (b.length : Int) ≤ 100000000) : Evx (fun k => impl_RecordFrom.f k key n b) (fun r => r = FromR key n b) := by
  have h0 := byt_rd hb 0
  have em : Int.tmod (wrap64 (rd b 0)) 128 = rd b 0 % 128 := by rw [w_byte h0, Int.tmod_eq_emod_of_nonneg h0.1]
  unfold impl_RecordFrom.f
  rw [sealok_nil]; simp only [Option.bind_some]
  rw [em]
  have e1 : wrap64 (rd b 0 % 128 + 1) = rd b 0 % 128 + 1 := by unfold wrap64; omega
  have e3 : wrap64 (rd b 0 % 128 + 3) = rd b 0 % 128 + 3 := by unfold wrap64; omega
  rw [e1, e3]
  unfold FromR
  refine Evx.ite (fun h => ?_) (fun h => ?_)
  · rw [if_pos (by simpa using h)]
    refine Evx.ite (fun h => ?_) (fun h => ?_)
    · rw [if_pos (by omega)]; exact Evx.now rfl
    rw [if_neg (by omega)]
    refine Evx.pos (by omega) ?_
    refine Evx.ite (fun h => ?_) (fun h => ?_)
    · rw [if_pos h]; exact Evx.now rfl
    rw [if_neg h]
    refine Evx.ite (fun h => ?_) (fun h => ?_)
    · rw [if_pos h]; exact Evx.now rfl
    rw [if_neg h]
    refine Evx.pos (by omega) (Evx.pos (by omega) ?_)
    have hd := dat_len (b := b) (by omega) (by omega)
    have hc : impl_clone_byte.f ((b.take (rd b 0 % 128 + 1).toNat).drop 1) = some (Dat b) := clone_eq (l := Dat b) (by omega)
    rw [hc]; simp only [Option.bind_some]
    refine Evx.bind (impl_seal_x key n (l := Dat b) (byt_drop (byt_take hb _) _) (by omega) _) fun s hs => ?_
    refine Evx.bind (impl_num_x hb hm (by omega) (by omega)) fun m hm' => ?_
    subst hs hm'
    refine Evx.ite (fun h => ?_) (fun h => ?_)
    · rw [if_pos h.symm]; exact Evx.now rfl
    · rw [if_neg (fun q => h q.symm)]; exact Evx.now rfl
  · rw [if_neg (by simpa using h)]; exact Evx.now rfl
theorem fromr_len (key n : Int) {b : List Int} (hb : Byt b) : (FromR key n b).1.length ≤ 10 := by
  have h0 := byt_rd hb 0
  unfold FromR
  split
  · split
    · simp
    · split
      · simp
      · split
        · simp
        · split
          · exact dat_len (by omega) (by omega)
          · simp
  · simp
theorem fromr_byt (key n : Int) {b : List Int} (hb : Byt b) : Byt (FromR key n b).1 := by
  unfold FromR
  split
  · split
    · exact byt_nil
    · split
      · exact byt_nil
      · split
        · exact byt_nil
        · split
          · exact byt_drop (byt_take hb _) _
          · exact byt_nil
  · exact byt_nil

/-- What Opened returns, with what was read before. -/
def OpenR (key : Int) : Nat → Int → List Int → List Int → List Int × Bool
  | 0, _, _, out => (out, false)
  | d + 1, n, b, out => if (FromR key n b).2.2 ≤ 0 then (out, false) else if (FromR key n b).2.1 = true then (out ++ (FromR key n b).1, decide ((b.length : Int) = (FromR key n b).2.2)) else OpenR key d (n + 1) (b.drop (FromR key n b).2.2.toNat) (out ++ (FromR key n b).1)
theorem fromr_pos {key n : Int} {b : List Int} (hb : Byt b) (h : ¬ (FromR key n b).2.2 ≤ 0) : 3 ≤ (FromR key n b).2.2 ∧ (FromR key n b).2.2 ≤ b.length ∧ ((FromR key n b).1.length : Int) = (FromR key n b).2.2 - 3 := by
  have h0 := byt_rd hb 0
  unfold FromR at h ⊢
  by_cases c1 : Kok key n
  · rw [if_pos c1] at h ⊢
    by_cases c2 : b.length = 0
    · rw [if_pos c2] at h; exact absurd (Int.le_refl 0) h
    · rw [if_neg c2] at h ⊢
      by_cases c3 : rd b 0 % 128 > 10
      · rw [if_pos c3] at h; exact absurd (show (-1 : Int) ≤ 0 by omega) h
      · rw [if_neg c3] at h ⊢
        by_cases c4 : (b.length : Int) < rd b 0 % 128 + 3
        · rw [if_pos c4] at h; exact absurd (Int.le_refl 0) h
        · rw [if_neg c4] at h ⊢
          by_cases c5 : Num b (rd b 0 % 128 + 1) = SealR key n (Dat b) (decide (rd b 0 ≥ 128))
          · rw [if_pos c5]
            refine ⟨?_, ?_, ?_⟩
            · show (3 : Int) ≤ rd b 0 % 128 + 3; omega
            · show rd b 0 % 128 + 3 ≤ _; omega
            · show ((Dat b).length : Int) = rd b 0 % 128 + 3 - 3
              unfold Dat; rw [List.length_drop, List.length_take]; omega
          · rw [if_neg c5] at h; exact absurd (show (-1 : Int) ≤ 0 by omega) h
  · rw [if_neg c1] at h; exact absurd (show (-1 : Int) ≤ 0 by omega) h
theorem impl_opened_l (key : Int) (d : Nat) : ∀ (b out : List Int) (n : Int), b.length < d → Byt b → 0 ≤ n → n + b.length ≤ 10000000 → out.length + b.length ≤ 10000000 →
    Evx (fun k => impl_Opened.l0 k key b out n) (fun r => r = OpenR key d n b out) := by
  induction d with
  | zero => intro b out n h; omega
  | succ d ih =>
    intro b out n h hb n0 hn ho
    refine Evx.step (fun k => by rw [impl_Opened.l0]) ?_
    refine Evx.bind (impl_from_x key n hb (by omega)) fun r hr => ?_
    have hp := fromr_pos (key := key) (n := n) hb
    unfold OpenR
    rw [← hr] at hp ⊢
    refine Evx.ite (fun c => ?_) (fun c => ?_)
    · rw [if_pos c, clone_eq (by omega)]; exact Evx.now rfl
    · rw [if_neg c]
      have hp := hp c
      have hal : ((out ++ r.1).length : Int) = out.length + r.1.length := by simp
      simp only [Option.bind_some]
      refine Evx.pos (by omega) (Evx.pos (by omega) (Evx.pos hp.2.1 ?_))
      rw [clone_eq (by omega)]
      simp only [Option.bind_some]
      refine Evx.ite (fun c2 => ?_) (fun c2 => ?_)
      · rw [if_pos c2]
        refine Evx.now ?_
        congr 1
        rw [List.length_drop, Bool.eq_iff_iff]
        simp
        omega
      · rw [if_neg c2]
        have e : wrap64 (n + 1) = n + 1 := by unfold wrap64; omega
        rw [e]
        exact ih _ _ _ (by rw [List.length_drop]; omega) (byt_drop hb _) (by omega) (by rw [List.length_drop]; omega) (by rw [List.length_drop]; omega)
theorem openr_len (key : Int) (d : Nat) : ∀ (n : Int) (b out : List Int), Byt b → (OpenR key d n b out).1.length ≤ out.length + b.length := by
  induction d with
  | zero => intro n b out hb; simp [OpenR]
  | succ d ih =>
    intro n b out hb
    have hp := fromr_pos (key := key) (n := n) hb
    unfold OpenR
    split
    · simp
    · rename_i c
      have hp := hp c
      split
      · simp; omega
      · have h1 := ih (n + 1) (b.drop (FromR key n b).2.2.toNat) (out ++ (FromR key n b).1) (byt_drop hb _)
        rw [List.length_append, List.length_drop] at h1
        omega
/-- What Opened returns. -/
def OpenedR (key : Int) (b : List Int) : List Int × Bool := OpenR key (b.length + 1) 0 b []
theorem openedr_len (key : Int) {b : List Int} (hb : Byt b) : (OpenedR key b).1.length ≤ b.length := by
  have := openr_len key (b.length + 1) 0 b [] hb
  unfold OpenedR
  simpa using this
theorem impl_opened_x (key : Int) {b : List Int} (hb : Byt b) (hm : (b.length : Int) ≤ 2000000) : Evx (fun k => impl_Opened.f k key b) (fun r => r = OpenedR key b) := by
  unfold impl_Opened.f
  exact impl_opened_l key (b.length + 1) b [] 0 (by omega) hb (by omega) (by omega) (by simp; omega)

theorem rd_cons0 (h : Int) (r : List Int) : rd (h :: r) 0 = h := rfl
theorem rd_cons {h : Int} {r : List Int} {j : Int} (j0 : 0 ≤ j) : rd (h :: r) (j + 1) = rd r j := by
  unfold rd
  rw [show (j + 1).toNat = j.toNat + 1 by omega]; rfl
theorem rd_app {l r : List Int} {j : Int} (j0 : 0 ≤ j) : rd (l ++ r) (l.length + j) = rd r j := by
  unfold rd
  rw [List.getD_eq_getElem?_getD, List.getD_eq_getElem?_getD, List.getElem?_append_right (by omega)]
  congr 2; omega
theorem rec_cons {key n : Int} {l : List Int} {last : Bool} (h : Sok key n l) : RecR key n l last = ((l.length : Int) + (if last then 128 else 0)) :: (l ++ Tail (SealR key n l last)) := by
  unfold RecR; rw [if_pos h]
theorem rec_len {key n : Int} {l : List Int} {last : Bool} (h : Sok key n l) : (RecR key n l last).length = l.length + 3 := by
  rw [rec_cons h]; simp [Tail]
theorem rec_nil {key n : Int} {l : List Int} {last : Bool} (h : ¬ Sok key n l) : RecR key n l last = [] := by
  unfold RecR; rw [if_neg h]
/-- What the parts of a record are read as. -/
theorem rec_parts {key n : Int} {l : List Int} {last : Bool} (h : Sok key n l) (t : List Int) :
    rd (RecR key n l last ++ t) 0 % 128 = l.length ∧ decide (rd (RecR key n l last ++ t) 0 ≥ 128) = last ∧ Dat (RecR key n l last ++ t) = l ∧ Num (RecR key n l last ++ t) (l.length + 1) = SealR key n l last := by
  have h3 := h.2.2
  have hs := seal_rng last h
  have hd : rd (RecR key n l last ++ t) 0 = (l.length : Int) + (if last then 128 else 0) := by rw [rec_cons h]; rfl
  have hm : rd (RecR key n l last ++ t) 0 % 128 = l.length := by rw [hd]; cases last <;> simp <;> omega
  refine ⟨hm, ?_, ?_, ?_⟩
  · rw [hd]; cases last <;> simp <;> omega
  · unfold Dat
    rw [hm, rec_cons h]
    rw [show ((l.length : Int) + 1).toNat = l.length + 1 by omega]
    simp
  · unfold Num
    rw [rec_cons h, List.cons_append, rd_cons (by omega), rd_cons (by omega), List.append_assoc]
    have e0 := rd_app (l := l) (r := Tail (SealR key n l last) ++ t) (j := 0) (by omega)
    have e1 := rd_app (l := l) (r := Tail (SealR key n l last) ++ t) (j := 1) (by omega)
    rw [Int.add_zero] at e0
    rw [e0, e1]
    have f0 : rd (Tail (SealR key n l last) ++ t) 0 = SealR key n l last / 256 % 256 := rfl
    have f1 : rd (Tail (SealR key n l last) ++ t) 1 = SealR key n l last % 256 := rfl
    rw [f0, f1]; omega
theorem from_rec {key n : Int} {l : List Int} {last : Bool} (h : Sok key n l) (t : List Int) : FromR key n (RecR key n l last ++ t) = (l, last, (l.length : Int) + 3) := by
  have h3 := h.2.2
  have hp := rec_parts (last := last) h t
  have hl : (RecR key n l last ++ t).length = l.length + 3 + t.length := by rw [List.length_append, rec_len h]
  unfold FromR
  rw [hp.1, hp.2.1, hp.2.2.1, hp.2.2.2, if_pos ⟨h.1, h.2.1⟩, if_neg (by omega), if_neg (by omega), if_neg (by omega), if_pos rfl]
theorem same_x (l : List Int) : laws_sameBytes.f l l = some true := by unfold laws_sameBytes.f; simp

theorem fromr_ok {key n : Int} {b : List Int} (h : ¬ (FromR key n b).2.2 ≤ 0) : Kok key n ∧ b.length ≠ 0 ∧ rd b 0 % 128 ≤ 10 ∧ rd b 0 % 128 + 3 ≤ b.length ∧ Num b (rd b 0 % 128 + 1) = SealR key n (Dat b) (decide (rd b 0 ≥ 128)) ∧ FromR key n b = (Dat b, decide (rd b 0 ≥ 128), rd b 0 % 128 + 3) := by
  unfold FromR at h ⊢
  by_cases c1 : Kok key n
  · rw [if_pos c1] at h ⊢
    by_cases c2 : b.length = 0
    · rw [if_pos c2] at h; exact absurd (Int.le_refl 0) h
    · rw [if_neg c2] at h ⊢
      by_cases c3 : rd b 0 % 128 > 10
      · rw [if_pos c3] at h; exact absurd (show (-1 : Int) ≤ 0 by omega) h
      · rw [if_neg c3] at h ⊢
        by_cases c4 : (b.length : Int) < rd b 0 % 128 + 3
        · rw [if_pos c4] at h; exact absurd (Int.le_refl 0) h
        · rw [if_neg c4] at h ⊢
          by_cases c5 : Num b (rd b 0 % 128 + 1) = SealR key n (Dat b) (decide (rd b 0 ≥ 128))
          · rw [if_pos c5]
            exact ⟨c1, c2, by omega, by omega, c5, rfl⟩
          · rw [if_neg c5] at h; exact absurd (show (-1 : Int) ≤ 0 by omega) h
  · rw [if_neg c1] at h; exact absurd (show (-1 : Int) ≤ 0 by omega) h
theorem fromr_no {key n : Int} {b : List Int} (h : (FromR key n b).2.2 < 1) (hb : Byt b) : (FromR key n b).1 = [] ∧ (FromR key n b).2.1 = false := by
  have h0 := byt_rd hb 0
  unfold FromR at h ⊢
  by_cases c1 : Kok key n
  · rw [if_pos c1] at h ⊢
    by_cases c2 : b.length = 0
    · rw [if_pos c2]; exact ⟨rfl, rfl⟩
    · rw [if_neg c2] at h ⊢
      by_cases c3 : rd b 0 % 128 > 10
      · rw [if_pos c3]; exact ⟨rfl, rfl⟩
      · rw [if_neg c3] at h ⊢
        by_cases c4 : (b.length : Int) < rd b 0 % 128 + 3
        · rw [if_pos c4]; exact ⟨rfl, rfl⟩
        · rw [if_neg c4] at h ⊢
          by_cases c5 : Num b (rd b 0 % 128 + 1) = SealR key n (Dat b) (decide (rd b 0 ≥ 128))
          · rw [if_pos c5] at h
            have h : rd b 0 % 128 + 3 < 1 := h
            omega
          · rw [if_neg c5]; exact ⟨rfl, rfl⟩
  · rw [if_neg c1]; exact ⟨rfl, rfl⟩
theorem rd_take {l : List Int} {j : Int} {m : Nat} (j0 : 0 ≤ j) (h : j < m) : rd (l.take m) j = rd l j := by
  unfold rd
  rw [List.getD_eq_getElem?_getD, List.getD_eq_getElem?_getD, List.getElem?_take, if_pos (by omega)]
/-- Of fewer bytes than a record is there is none yet. -/
theorem from_less {key n : Int} {b : List Int} (hb : Byt b) (h : ¬ (FromR key n b).2.2 ≤ 0) {k : Int} (k0 : 0 ≤ k) (k1 : k < (FromR key n b).2.2) : (FromR key n (b.take k.toNat)).2.2 = 0 := by
  obtain ⟨h1, h2, h3, h4, h5, h6⟩ := fromr_ok h
  have k1 : k < rd b 0 % 128 + 3 := by rw [h6] at k1; exact k1
  have hr := byt_rd hb 0
  have hl : ((b.take k.toNat).length : Int) = k := by rw [List.length_take]; omega
  unfold FromR
  rw [if_pos h1]
  by_cases c : (b.take k.toNat).length = 0
  · rw [if_pos c]
  · rw [if_neg c]
    have e0 : rd (b.take k.toNat) 0 = rd b 0 := rd_take (by omega) (by omega)
    rw [e0, if_neg (by omega), if_pos (by omega)]
/-- A record is the bytes that it was read from. -/
theorem rec_from {key n : Int} {b : List Int} (hb : Byt b) (h : ¬ (FromR key n b).2.2 ≤ 0) : RecR key n (FromR key n b).1 (FromR key n b).2.1 = b.take (FromR key n b).2.2.toNat := by
  obtain ⟨h1, h2, h3, h4, h5, h6⟩ := fromr_ok h
  have h0 := byt_rd hb 0
  rw [h6]
  show RecR key n (Dat b) (decide (rd b 0 ≥ 128)) = b.take (rd b 0 % 128 + 3).toNat
  have hd : ((Dat b).length : Int) = rd b 0 % 128 := by unfold Dat; rw [List.length_drop, List.length_take]; omega
  have hs : Sok key n (Dat b) := ⟨h1.1, h1.2, by omega⟩
  rw [rec_cons hs, ← h5, hd]
  have hc : rd b 0 % 128 + (if decide (rd b 0 ≥ 128) = true then 128 else 0) = rd b 0 := by
    by_cases c : rd b 0 ≥ 128
    · rw [if_pos (decide_eq_true c)]; omega
    · rw [if_neg (by simpa using c)]; omega
  rw [hc]
  have hi := byt_rd hb (rd b 0 % 128 + 1)
  have hj := byt_rd hb (rd b 0 % 128 + 1 + 1)
  have ht : Tail (Num b (rd b 0 % 128 + 1)) = [rd b (rd b 0 % 128 + 1), rd b (rd b 0 % 128 + 1 + 1)] := by
    unfold Tail Num
    congr 1
    · omega
    · congr 1; omega
  rw [ht]
  cases b with
  | nil => exact absurd rfl h2
  | cons x r =>
    have hx : rd (x :: r) 0 = x := rfl
    unfold Dat
    rw [hx] at *
    have e1 : (x % 128 + 1).toNat = (x % 128).toNat + 1 := by omega
    have e3 : (x % 128 + 3).toNat = (x % 128).toNat + 2 + 1 := by omega
    have hlen : (x :: r).length = r.length + 1 := rfl
    rw [e1, e3, List.take_succ_cons, List.take_succ_cons, List.drop_succ_cons, List.drop_zero]
    congr 1
    have q1 : rd (x :: r) (x % 128 + 1) = rd r (x % 128) := rd_cons (by omega)
    have q2 : rd (x :: r) (x % 128 + 1 + 1) = rd r (x % 128 + 1) := rd_cons (by omega)
    rw [q1, q2, List.take_add_one, List.take_add_one, List.append_assoc]
    congr 1
    have hlt : (x % 128).toNat < r.length := by have h4' : x % 128 + 3 ≤ ((x :: r).length : Int) := h4; rw [hlen] at h4'; omega
    have hlt2 : (x % 128).toNat + 1 < r.length := by have h4' : x % 128 + 3 ≤ ((x :: r).length : Int) := h4; rw [hlen] at h4'; omega
    have g1 : r[(x % 128).toNat]? = some (rd r (x % 128)) := by unfold rd; rw [List.getD_eq_getElem?_getD, List.getElem?_eq_getElem hlt]; rfl
    have g2 : r[(x % 128).toNat + 1]? = some (rd r (x % 128 + 1)) := by unfold rd; rw [List.getD_eq_getElem?_getD, show (x % 128 + 1).toNat = (x % 128).toNat + 1 by omega, List.getElem?_eq_getElem hlt2]; rfl
    rw [g1, g2]; rfl

theorem take_big {l : List Int} (h : l.length > 10) : (l.take 10).length = 10 := by rw [List.length_take]; omega
theorem open_strm {key : Int} (hk : 1 ≤ key ∧ key ≤ 65520) (d : Nat) : ∀ {n : Int} {l out : List Int} {d' : Nat}, l.length < d → 0 ≤ n → n + l.length ≤ 1000 → (Strm key d n l).length < d' → OpenR key d' n (Strm key d n l) out = (out ++ l, true) := by
  induction d with
  | zero => intro n l out d' h; omega
  | succ d ih =>
    intro n l out d' h n0 n1 hd
    cases d' with
    | zero => omega
    | succ d' =>
      unfold Strm at hd ⊢
      unfold OpenR
      by_cases c : l.length > 10
      · have h10 := take_big c
        have hs : Sok key n (l.take 10) := ⟨hk, ⟨n0, by omega⟩, by omega⟩
        have hl := rec_len (last := false) hs
        rw [if_pos c] at hd ⊢
        rw [from_rec hs, if_neg (show ¬ ((l.take 10).length : Int) + 3 ≤ 0 by omega), if_neg (show ¬ false = true by simp)]
        show OpenR key d' (n + 1) ((RecR key n (l.take 10) false ++ Strm key d (n + 1) (l.drop 10)).drop (((l.take 10).length : Int) + 3).toNat) (out ++ l.take 10) = _
        have e : (((l.take 10).length : Int) + 3).toNat = (RecR key n (l.take 10) false).length := by omega
        rw [e, List.drop_left]
        rw [List.length_append] at hd
        rw [ih (by rw [List.length_drop]; omega) (by omega) (by rw [List.length_drop]; omega) (by omega), List.append_assoc, List.take_append_drop]
      · have hs : Sok key n l := ⟨hk, ⟨n0, by omega⟩, by omega⟩
        have hl := rec_len (last := true) hs
        rw [if_neg c]
        have hf := from_rec (last := true) hs []
        rw [List.append_nil] at hf
        rw [hf, if_neg (show ¬ (l.length : Int) + 3 ≤ 0 by omega), if_pos rfl]
        congr 1
        exact decide_eq_true (show ((RecR key n l true).length : Int) = (l.length : Int) + 3 by omega)
theorem open_cut {key : Int} (hk : 1 ≤ key ∧ key ≤ 65520) (d : Nat) : ∀ {n : Int} {l out : List Int} {d' k : Nat}, Byt l → l.length < d → 0 ≤ n → n + l.length ≤ 1000 → k < (Strm key d n l).length → k < d' →
    (OpenR key d' n ((Strm key d n l).take k) out).2 = false ∧ ∃ j, (OpenR key d' n ((Strm key d n l).take k) out).1 = out ++ l.take j := by
  induction d with
  | zero => intro n l out d' k hb h; omega
  | succ d ih =>
    intro n l out d' k hb h n0 n1 hk2 hd
    cases d' with
    | zero => omega
    | succ d' =>
      unfold Strm at hk2 ⊢
      unfold OpenR
      by_cases c : l.length > 10
      · have h10 := take_big c
        have hs : Sok key n (l.take 10) := ⟨hk, ⟨n0, by omega⟩, by omega⟩
        have hl := rec_len (last := false) hs
        rw [if_pos c] at hk2 ⊢
        rw [List.length_append] at hk2
        by_cases c3 : k < 13
        · have hB : Byt (RecR key n (l.take 10) false ++ Strm key d (n + 1) (l.drop 10)) := byt_app (recr_byt (byt_take hb _) _) (strm_byt _ _ _ _ (byt_drop hb _))
          have hf := from_rec (last := false) hs (Strm key d (n + 1) (l.drop 10))
          have h3 : (FromR key n (RecR key n (l.take 10) false ++ Strm key d (n + 1) (l.drop 10))).2.2 = 13 := by rw [hf]; show ((l.take 10).length : Int) + 3 = 13; omega
          have hz := from_less (key := key) (n := n) hB (by omega) (show 0 ≤ (k : Int) by omega) (by omega)
          rw [Int.toNat_natCast] at hz
          rw [hz, if_pos (Int.le_refl 0)]
          exact ⟨rfl, 0, by simp⟩
        · have e : (RecR key n (l.take 10) false ++ Strm key d (n + 1) (l.drop 10)).take k = RecR key n (l.take 10) false ++ (Strm key d (n + 1) (l.drop 10)).take (k - 13) := by
            rw [List.take_append, List.take_of_length_le (by omega)]; congr 2; omega
          rw [e, from_rec hs, if_neg (show ¬ ((l.take 10).length : Int) + 3 ≤ 0 by omega), if_neg (show ¬ false = true by simp)]
          have e2 : (((l.take 10).length : Int) + 3).toNat = (RecR key n (l.take 10) false).length := by omega
          show (OpenR key d' (n + 1) ((RecR key n (l.take 10) false ++ (Strm key d (n + 1) (l.drop 10)).take (k - 13)).drop (((l.take 10).length : Int) + 3).toNat) (out ++ l.take 10)).2 = false ∧ ∃ j, (OpenR key d' (n + 1) ((RecR key n (l.take 10) false ++ (Strm key d (n + 1) (l.drop 10)).take (k - 13)).drop (((l.take 10).length : Int) + 3).toNat) (out ++ l.take 10)).1 = out ++ l.take j
          rw [e2, List.drop_left]
          obtain ⟨h1, j, h2⟩ := ih (out := out ++ l.take 10) (d' := d') (k := k - 13) (byt_drop hb 10) (by rw [List.length_drop]; omega) (show 0 ≤ n + 1 by omega) (by rw [List.length_drop]; omega) (by omega) (by omega)
          refine ⟨h1, 10 + j, ?_⟩
          rw [h2, List.append_assoc, ← List.take_add]
      · have hs : Sok key n l := ⟨hk, ⟨n0, by omega⟩, by omega⟩
        have hl := rec_len (last := true) hs
        rw [if_neg c] at hk2 ⊢
        have hf := from_rec (last := true) hs []
        rw [List.append_nil] at hf
        have h3 : (FromR key n (RecR key n l true)).2.2 = (l.length : Int) + 3 := by rw [hf]
        have hz := from_less (key := key) (n := n) (b := RecR key n l true) (recr_byt hb true) (by omega) (show 0 ≤ (k : Int) by omega) (by omega)
        rw [Int.toNat_natCast] at hz
        rw [hz, if_pos (Int.le_refl 0)]
        exact ⟨rfl, 0, by simp⟩
theorem begins_x (l : List Int) (j : Nat) : laws_begins.f (l.take j) l = some true := by
  unfold laws_begins.f
  rw [if_pos (by rw [List.length_take]; omega), if_pos (by omega), Int.toNat_natCast]
  have e : l.take (l.take j).length = l.take j := by rw [List.length_take, List.take_eq_take_iff]; omega
  rw [e, same_x]; rfl
theorem loop_x {key : Int} (hk : 1 ≤ key ∧ key ≤ 65520) {l b : List Int} (hb : Byt l) (hl : l.length ≤ 100) (e : b = Strm key 1001 0 l) (d : Nat) : ∀ i : Int, 0 ≤ i → i ≤ b.length → b.length - i = d →
    Evx (fun k => laws_FnSealed.l0 k key l b i) (fun r => r = true) := by
  have hB : Byt b := by rw [e]; exact strm_byt _ _ _ _ hb
  have hbl : b.length ≤ 2 * l.length + 13 := by rw [e]; exact strm_len _ _ _ _
  induction d with
  | zero =>
    intro i i0 i1 hd
    refine Evx.step (fun k => by rw [laws_FnSealed.l0]) (Evx.neg (by omega) ?_)
    refine Evx.bind (impl_opened_x key hB (by omega)) fun r hr => ?_
    have h1 : r = (l, true) := by
      rw [hr, OpenedR]
      have := open_strm hk 1001 (n := 0) (l := l) (out := []) (d' := b.length + 1) (by omega) (by omega) (by omega) (by rw [← e]; omega)
      rw [← e] at this; simpa using this
    subst h1
    refine Evx.pos rfl ?_
    show Evx (fun k => (laws_sameBytes.f l l).bind _) _
    rw [same_x]; exact Evx.now rfl
  | succ d ih =>
    intro i i0 i1 hd
    refine Evx.step (fun k => by rw [laws_FnSealed.l0]) (Evx.pos (by omega) ?_)
    simp only [Option.bind_some, List.nil_append]
    refine Evx.pos i0 (Evx.pos (by omega) (Evx.pos (by rw [List.length_take]; simp; omega) ?_))
    refine Evx.bind (impl_opened_x key (byt_take hB _) (by rw [List.length_take]; omega)) fun r hr => ?_
    have hc := open_cut hk 1001 (n := 0) (l := l) (out := []) (d' := (b.take i.toNat).length + 1) (k := i.toNat) hb (by omega) (by omega) (by omega) (by rw [← e]; omega) (by rw [List.length_take]; omega)
    rw [← e] at hc
    obtain ⟨h1, j, h2⟩ := hc
    have h1' : r.2 = false := by rw [hr]; exact h1
    have h2' : r.1 = l.take j := by rw [hr, OpenedR, h2]; rfl
    refine Evx.neg (by rw [h1']; simp) ?_
    rw [h2', begins_x]
    simp only [Option.bind_some]
    have ei : wrap64 (i + 1) = i + 1 := by unfold wrap64; omega
    rw [ei]
    exact Evx.pos trivial (ih _ (by omega) (by omega) (by omega))
theorem FnSealed : laws_FnSealed.Pure := by
  intro l hm hn hw
  have hb := byt_wf hw
  refine Evx.law (g := fun k => laws_FnSealed.f k l) ?_
  unfold laws_FnSealed.f
  refine Evx.ite (fun _ => Evx.now rfl) (fun hlen => ?_)
  unfold spec_DrawSealed.f
  obtain ⟨r, e, hbr, hnr, hp⟩ := open_x hb
  rw [e]; simp only [Option.bind_some, Option.bind_assoc]
  refine Evx.bind (key_x hbr (by omega) _ (by omega) (by omega)) fun r1 p1 => ?_
  obtain ⟨n1, m1, _⟩ := p1
  refine Evx.bind (pick_x hbr (by omega) _ _ (by omega) (by omega)) fun r2 p2 => ?_
  obtain ⟨e2, a2, b2, _⟩ := p2
  have b2 := b2 (by omega)
  refine Evx.bind (bytes_x hbr (by omega) _ _ (by omega) (by omega) a2 (by omega)) fun r3 p3 => ?_
  obtain ⟨b3, l3, n3, m3⟩ := p3
  refine Evx.bind (impl_sealed_x _ b3) fun r4 e4 => ?_
  refine Evx.bind (spec_sealed_x _ b3) fun r5 e5 => ?_
  rw [← e4] at e5
  subst e5
  rw [same_x]
  simp only [Option.bind_some]
  refine Evx.pos trivial (Evx.ite (fun c => ?_) (fun c => ?_))
  · exact Evx.bind alive_x fun r hr => Evx.now hr
  · have hk : (1 ≤ r1.1 ∧ r1.1 ≤ 65520) ∧ r3.1.length ≤ 1000 := by
      by_cases q : (1 ≤ r1.1 ∧ r1.1 ≤ 65520) ∧ r3.1.length ≤ 1000
      · exact q
      · rw [SealedR, if_neg q] at e4; rw [e4] at c; exact absurd rfl c
    have es : r5 = Strm r1.1 1001 0 r3.1 := by rw [e4, SealedR, if_pos hk]
    exact loop_x hk.1 b3 (by omega) es r5.length 0 (by omega) (by omega) (by omega)

end Go.Proofs.Ytgabediginlabaa.Pure
