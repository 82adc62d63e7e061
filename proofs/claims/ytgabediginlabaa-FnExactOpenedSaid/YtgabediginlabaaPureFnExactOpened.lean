/- The plain statement of FnExactOpened: for all arguments, the law's function comes to true; there is no condition beyond those it names. -/
import Derived.Test.YtgabediginlabaaGFnExactOpenedx5
set_option linter.unusedVariables false
set_option linter.unusedSimpArgs false
set_option maxRecDepth 100000
namespace Go.Proofs.Ytgabediginlabaa.Pure
open Go.RowKit Go.Proofs.Ytgabediginlabaa.GFnExactOpened Go.Proofs.YtgabediginlabaaU.PrintWords Go.Proofs.YtgabediginlabaaU.PrintLast Go.Proofs.YtgabediginlabaaU.PrintMore

theorem w64 {x : Int} (h0 : -9223372036854775808 ≤ x) (h1 : x ≤ 9223372036854775807) : wrap64 x = x := by unfold wrap64; omega

/-- It comes to an answer of which P holds. -/
def Evx {α : Type} (g : Nat → Option α) (P : α → Prop) : Prop := ∃ r, Ev g r ∧ P r
theorem Evx.bind {α β : Type} {g : Nat → Option α} {f : Nat → α → Option β} {P : α → Prop} {Q : β → Prop} (h : Evx g P) (k : ∀ a, P a → Evx (fun n => f n a) Q) : Evx (fun n => (g n).bind (f n)) Q := by
  obtain ⟨a, ha, pa⟩ := h
  obtain ⟨r, hr, qr⟩ := k a pa
  exact ⟨r, Ev.bind ha hr, qr⟩
theorem Evx.now {α : Type} {P : α → Prop} {r : α} (h : P r) : Evx (fun _ => some r) P := ⟨r, Ev.now r, h⟩
theorem Evx.pos {α : Type} {c : Prop} [Decidable c] {f g : Nat → Option α} {P : α → Prop} (hc : c) (h : Evx f P) : Evx (fun n => if c then f n else g n) P := by
  simp only [if_pos hc]; exact h
theorem Evx.neg {α : Type} {c : Prop} [Decidable c] {f g : Nat → Option α} {P : α → Prop} (hc : ¬ c) (h : Evx g P) : Evx (fun n => if c then f n else g n) P := by
  simp only [if_neg hc]; exact h
theorem Evx.ite {α : Type} {c : Prop} [Decidable c] {f g : Nat → Option α} {P : α → Prop} (h : c → Evx f P) (k : ¬ c → Evx g P) : Evx (fun n => if c then f n else g n) P := by
  by_cases hc : c
  · exact Evx.pos hc (h hc)
  · exact Evx.neg hc (k hc)
theorem Evx.step {α : Type} {g f : Nat → Option α} {P : α → Prop} (h : ∀ k, g (k + 1) = f k) (k : Evx f P) : Evx g P := by
  obtain ⟨r, hr, p⟩ := k
  exact ⟨r, Ev.step h hr, p⟩
theorem Evx.mono {α : Type} {g : Nat → Option α} {P Q : α → Prop} (h : Evx g P) (k : ∀ r, P r → Q r) : Evx g Q := by
  obtain ⟨r, hr, p⟩ := h
  exact ⟨r, hr, k r p⟩
theorem Evx.law {g : Nat → Option Bool} (h : Evx g (fun r => r = true)) : ∃ k, g k = some true := by
  obtain ⟨r, hr, rfl⟩ := h
  exact hr.rounds
theorem Evx.of {α : Type} {g : Nat → Option α} {r : α} {P : α → Prop} (hg : ∀ k, LeO (g k) (g (k + 1))) {k : Nat} (h : g k = some r) (p : P r) : Evx g P := ⟨r, Ev.of hg h, p⟩

/-- All are bytes. -/
def Byt (l : List Int) : Prop := ∀ x ∈ l, 0 ≤ x ∧ x ≤ 255
theorem byt_wf {l : List Int} (h : ∀ x ∈ l, (Lit.int .u8 x).wf = true) : Byt l := by
  intro x hx
  have := h x hx
  simp [Lit.wf, IntKind.min, IntKind.max, IntKind.signed, IntKind.bits] at this
  omega
theorem byt_rd {l : List Int} (h : Byt l) (i : Int) : 0 ≤ rd l i ∧ rd l i ≤ 255 := by
  unfold rd
  by_cases hi : i.toNat < l.length
  · rw [List.getD_eq_getElem?_getD, List.getElem?_eq_getElem hi]; exact h _ (List.getElem_mem hi)
  · rw [List.getD_eq_getElem?_getD, List.getElem?_eq_none (by omega)]; simp
theorem xor_nn {x y : Int} (hx : 0 ≤ x) (hx1 : x < 4611686018427387904) (hy : 0 ≤ y) (hy1 : y < 4611686018427387904) : 0 ≤ Go.bits .xor .i64 x y := by
  obtain ⟨a, rfl⟩ := Int.eq_ofNat_of_zero_le hx
  obtain ⟨b, rfl⟩ := Int.eq_ofNat_of_zero_le hy
  have ha : a < 2 ^ 62 := by omega
  have hb : b < 2 ^ 62 := by omega
  have hc := Nat.xor_lt_two_pow ha hb
  unfold Go.bits
  simp only [BitVec.ofInt_natCast, BitVec.toNat_xor, BitVec.toNat_ofNat]
  rw [IntKind.wrap_i64]
  have e : IntKind.i64.bits = 64 := rfl
  rw [e, Nat.mod_eq_of_lt (by omega), Nat.mod_eq_of_lt (by omega)]
  omega

theorem impl_in_eq (a b c : Int) : impl_in.f a b c = some (decide (b ≤ a ∧ a ≤ c)) := by
  unfold impl_in.f
  by_cases h : b ≤ a
  · rw [if_pos h]; simp [h]
  · rw [if_neg (by omega)]; simp [h]
theorem spec_in_eq (a b c : Int) : spec_l1In.f a b c = some (decide (b ≤ a ∧ a ≤ c)) := by
  unfold spec_l1In.f
  by_cases h : b ≤ a
  · rw [if_pos h]; simp [h]
  · rw [if_neg (by omega)]; simp [h]

/-- One byte more goes into a seal. -/
def Stp (key x b : Int) : Int := (x * key + b + 1) % 65521
def Fld (key x : Int) (l : List Int) : Int := l.foldl (Stp key) x
/-- The seal of bytes. -/
def Seal (key n : Int) (l : List Int) (last : Bool) : Int := Fld key (n + 1) (l ++ [if last then 1 else 0]) * key % 65521
/-- What can be sealed. -/
def Sok (key n : Int) (l : List Int) : Prop := (1 ≤ key ∧ key ≤ 65520) ∧ (0 ≤ n ∧ n ≤ 1000) ∧ l.length ≤ 10
instance (key n : Int) (l : List Int) : Decidable (Sok key n l) := by unfold Sok; infer_instance
def SealR (key n : Int) (l : List Int) (last : Bool) : Int := if Sok key n l then Seal key n l last else -1
theorem stp_rng (key x b : Int) : 0 ≤ Stp key x b ∧ Stp key x b < 65521 := by unfold Stp; omega
theorem mul_rng {key x : Int} (k0 : 1 ≤ key) (k1 : key ≤ 65520) (x0 : 0 ≤ x) (x1 : x < 65521) : 0 ≤ x * key ∧ x * key ≤ 4292870400 := by
  refine ⟨Int.mul_nonneg x0 (by omega), ?_⟩
  have := Int.mul_le_mul (show x ≤ 65520 by omega) k1 (by omega) (by omega)
  omega
theorem go_stp {key x b : Int} (k0 : 1 ≤ key) (k1 : key ≤ 65520) (x0 : 0 ≤ x) (x1 : x < 65521) (b0 : 0 ≤ b) (b1 : b ≤ 255) :
    Int.tmod (wrap64 ((wrap64 ((wrap64 (x * key)) + b)) + 1)) 65521 = Stp key x b := by
  have := mul_rng k0 k1 x0 x1
  unfold Stp
  generalize x * key = z at this ⊢
  have e1 : wrap64 z = z := by unfold wrap64; omega
  have e2 : wrap64 (z + b) = z + b := by unfold wrap64; omega
  have e3 : wrap64 (z + b + 1) = z + b + 1 := by unfold wrap64; omega
  rw [e1, e2, e3, Int.tmod_eq_emod_of_nonneg (by omega)]
theorem go_last {key x : Int} (k0 : 1 ≤ key) (k1 : key ≤ 65520) (x0 : 0 ≤ x) (x1 : x < 65521) : Int.tmod (wrap64 (x * key)) 65521 = x * key % 65521 := by
  have := mul_rng k0 k1 x0 x1
  generalize x * key = z at this ⊢
  have e1 : wrap64 z = z := by unfold wrap64; omega
  rw [e1, Int.tmod_eq_emod_of_nonneg (by omega)]
theorem fld_rng {key : Int} (l : List Int) : ∀ {x : Int}, 0 ≤ x → x < 65521 → 0 ≤ Fld key x l ∧ Fld key x l < 65521 := by
  induction l with
  | nil => intro x h0 h1; exact ⟨h0, h1⟩
  | cons b l ih => intro x h0 h1; exact ih (stp_rng key x b).1 (stp_rng key x b).2
theorem rd_drop {l : List Int} {i : Int} (h0 : 0 ≤ i) (h1 : i < l.length) : l.drop i.toNat = rd l i :: l.drop (i + 1).toNat := by
  have hi : i.toNat < l.length := by omega
  rw [List.drop_eq_getElem_cons hi]
  unfold rd
  rw [List.getD_eq_getElem?_getD, List.getElem?_eq_getElem hi]
  have : (i + 1).toNat = i.toNat + 1 := by omega
  rw [this]; rfl
theorem w_byte {b : Int} (h : 0 ≤ b ∧ b ≤ 255) : wrap64 b = b := by unfold wrap64; omega
theorem impl_seal_l {key : Int} (k0 : 1 ≤ key) (k1 : key ≤ 65520) {y : List Int} (hy : Byt y) (hl : (y.length : Int) ≤ 1000) (d : Nat) : ∀ x i : Int, 0 ≤ x → x < 65521 → 0 ≤ i → i ≤ y.length → y.length - i = d →
    Evx (fun k => impl_SealOf.l0 k key x y (y.length : Int) i) (fun r => r = Fld key x (y.drop i.toNat) * key % 65521) := by
  induction d with
  | zero =>
    intro x i x0 x1 i0 i1 hd
    refine Evx.step (fun k => by rw [impl_SealOf.l0]) (Evx.neg (by omega) (Evx.now ?_))
    rw [go_last k0 k1 x0 x1, List.drop_of_length_le (by omega)]; rfl
  | succ d ih =>
    intro x i x0 x1 i0 i1 hd
    refine Evx.step (fun k => by rw [impl_SealOf.l0]) (Evx.pos (by omega) (Evx.pos i0 (Evx.pos (by omega) ?_)))
    have hb := byt_rd hy i
    have e : wrap64 (i + 1) = i + 1 := by unfold wrap64; omega
    rw [w_byte hb, go_stp k0 k1 x0 x1 hb.1 hb.2, e, rd_drop i0 (by omega)]
    exact ih _ _ (stp_rng _ _ _).1 (stp_rng _ _ _).2 (by omega) (by omega) (by omega)
theorem impl_seal_x (key n : Int) {l : List Int} (hl : Byt l) (hn : (l.length : Int) ≤ 100000000) (last : Bool) : Evx (fun k => impl_SealOf.f k key n l last) (fun r => r = SealR key n l last) := by
  have hok : impl_sealOk.f key n l = some (decide (Sok key n l)) := by
    unfold impl_sealOk.f
    simp only [impl_in_eq, Option.bind_some]
    by_cases h : 1 ≤ key ∧ key ≤ 65520
    · rw [if_pos (by simpa using h)]
      by_cases h2 : 0 ≤ n ∧ n ≤ 1000
      · rw [if_pos (by simpa using h2)]
        have e : ((l.length : Int) ≤ 10) ↔ l.length ≤ 10 := by omega
        simp [Sok, h, h2, e]
      · rw [if_neg (by simpa using h2)]; simp [Sok, h, h2]
    · rw [if_neg (by simpa using h)]; simp [Sok, h]
  have hbit : impl_bit.f last 1 = some (if last then 1 else 0) := by
    unfold impl_bit.f; cases last <;> rfl
  unfold impl_SealOf.f
  rw [hok, hbit]; simp only [Option.bind_some]
  refine Evx.ite (fun h => ?_) (fun h => Evx.now ?_)
  · have h : Sok key n l := by simpa using h
    refine Evx.pos (by simp; omega) (Evx.pos (by simp; omega) ?_)
    have e1 : wrap64 (n + 1) = n + 1 := by have := h.2.1; unfold wrap64; omega
    have e2 : (if last = true then (1 : Int) else 0) % 256 = if last then 1 else 0 := by cases last <;> rfl
    rw [e1, e2, List.nil_append]
    have hy : Byt (l ++ [if last = true then (1 : Int) else 0]) := by
      intro x hx
      rcases List.mem_append.1 hx with hx | hx
      · exact hl x hx
      · rw [List.mem_singleton] at hx; cases last <;> simp at hx <;> omega
    have hlen : ((l ++ [if last = true then (1 : Int) else 0]).length : Int) = l.length + 1 := by simp
    have := h.2.1
    have h3 := h.2.2
    refine (impl_seal_l h.1.1 h.1.2 hy (by rw [hlen]; omega) (l ++ [if last = true then (1 : Int) else 0]).length (n + 1) 0 (by omega) (by omega) (by omega) (by omega) (by omega)).mono ?_
    intro r hr
    rw [hr]; unfold SealR Seal; rw [if_pos h]; rfl
  · have h : ¬ Sok key n l := by simpa using h
    unfold SealR; rw [if_neg h]
theorem fld_snoc (key x b : Int) (l : List Int) : Fld key x (l ++ [b]) = Stp key (Fld key x l) b := by simp [Fld]
theorem spec_seal_l {key : Int} (k0 : 1 ≤ key) (k1 : key ≤ 65520) {y : List Int} (hy : Byt y) (hl : (y.length : Int) ≤ 1000) (last : Bool) (d : Nat) : ∀ x i : Int, 0 ≤ x → x < 65521 → 0 ≤ i → i ≤ y.length → y.length - i = d →
    Evx (fun k => spec_SealOf.l0 k key y last x i) (fun r => r = Fld key x (y.drop i.toNat ++ [if last then 1 else 0]) * key % 65521) := by
  induction d with
  | zero =>
    intro x i x0 x1 i0 i1 hd
    refine Evx.step (fun k => by rw [spec_SealOf.l0]) (Evx.neg (by omega) ?_)
    rw [List.drop_of_length_le (by omega), List.nil_append, go_stp k0 k1 x0 x1 (by omega) (by omega : (1 : Int) ≤ 255), go_stp k0 k1 x0 x1 (by omega) (by omega : (0 : Int) ≤ 255)]
    rw [go_last k0 k1 (stp_rng _ _ _).1 (stp_rng _ _ _).2, go_last k0 k1 (stp_rng _ _ _).1 (stp_rng _ _ _).2]
    cases last
    · exact Evx.neg (by simp) (Evx.now rfl)
    · exact Evx.pos rfl (Evx.now rfl)
  | succ d ih =>
    intro x i x0 x1 i0 i1 hd
    refine Evx.step (fun k => by rw [spec_SealOf.l0]) (Evx.pos (by omega) (Evx.pos i0 ?_))
    have hb := byt_rd hy i
    have e : wrap64 (i + 1) = i + 1 := by unfold wrap64; omega
    rw [w_byte hb, go_stp k0 k1 x0 x1 hb.1 hb.2, e, rd_drop i0 (by omega)]
    exact ih _ _ (stp_rng _ _ _).1 (stp_rng _ _ _).2 (by omega) (by omega) (by omega)
theorem spec_seal_x (key n : Int) {l : List Int} (hl : Byt l) (last : Bool) : Evx (fun k => spec_SealOf.f k key n l last) (fun r => r = SealR key n l last) := by
  unfold spec_SealOf.f
  simp only [spec_in_eq, Option.bind_some]
  have no : ¬ Sok key n l → Evx (fun k => spec_SealOf.j0 k key n l last true) (fun r => r = SealR key n l last) := by
    intro h
    refine Evx.step (fun k => by rw [spec_SealOf.j0]) (Evx.pos rfl (Evx.now ?_))
    unfold SealR; rw [if_neg h]
  refine Evx.ite (fun h => Evx.ite (fun h2 => ?_) (fun h2 => no ?_)) (fun h => no ?_)
  · have h : 1 ≤ key ∧ key ≤ 65520 := by simpa using h
    have h2 : 0 ≤ n ∧ n ≤ 1000 := by simpa using h2
    by_cases h3 : (l.length : Int) > 10
    · rw [decide_eq_true h3]
      exact no (fun q => by have := q.2.2; omega)
    · rw [decide_eq_false h3]
      refine Evx.step (fun k => by rw [spec_SealOf.j0]) (Evx.neg (by simp) ?_)
      have e1 : wrap64 (n + 1) = n + 1 := by unfold wrap64; omega
      rw [e1]
      refine (spec_seal_l h.1 h.2 hl (by omega) last l.length (n + 1) 0 (by omega) (by omega) (by omega) (by omega) (by omega)).mono ?_
      intro r hr
      rw [hr]; unfold SealR Seal; rw [if_pos (show Sok key n l from ⟨h, h2, by omega⟩)]; rfl
  · intro q; exact absurd q.2.1 (by simpa using h2)
  · intro q; exact absurd q.1 (by simpa using h)
theorem seal_rng {key n : Int} {l : List Int} (last : Bool) (h : Sok key n l) : 0 ≤ SealR key n l last ∧ SealR key n l last < 65521 := by
  unfold SealR; rw [if_pos h]; unfold Seal; omega

theorem byt_nil : Byt [] := fun x hx => by cases hx

theorem byt_take {l : List Int} (h : Byt l) (n : Nat) : Byt (l.take n) := fun x hx => h x (List.mem_of_mem_take hx)
theorem byt_drop {l : List Int} (h : Byt l) (n : Nat) : Byt (l.drop n) := fun x hx => h x (List.mem_of_mem_drop hx)
theorem byt_app {l m : List Int} (h : Byt l) (k : Byt m) : Byt (l ++ m) := fun x hx => (List.mem_append.1 hx).elim (h x) (k x)

theorem or_byte {x y : Int} (hx : 0 ≤ x) (hx1 : x < 1000000) (hy : 0 ≤ y) (hy1 : y < 256) : Go.bits .or .i64 (x * 256) y = x * 256 + y := by
  obtain ⟨a, rfl⟩ := Int.eq_ofNat_of_zero_le hx
  obtain ⟨b, rfl⟩ := Int.eq_ofNat_of_zero_le hy
  have hb : b < 2 ^ 8 := by omega
  have hor := Nat.shiftLeft_add_eq_or_of_lt hb a
  rw [Nat.shiftLeft_eq] at hor
  have ea : ((a : Int) * 256) = ((a * 2 ^ 8 : Nat) : Int) := by omega
  rw [ea]
  unfold Go.bits
  simp only [BitVec.ofInt_natCast, BitVec.toNat_or, BitVec.toNat_ofNat]
  rw [IntKind.wrap_i64]
  have e : IntKind.i64.bits = 64 := rfl
  rw [e, Nat.mod_eq_of_lt (by omega), Nat.mod_eq_of_lt (by omega), ← hor]
  omega
/-- The number of two bytes. -/
def Num (b : List Int) (i : Int) : Int := rd b i * 256 + rd b (i + 1)
theorem rd_cut {b : List Int} {i j : Int} {m : Nat} (i0 : 0 ≤ i) (j0 : 0 ≤ j) (h : i + j < m) (hm : m ≤ b.length) : rd ((b.take m).drop i.toNat) j = rd b (i + j) := by
  unfold rd
  rw [List.getD_eq_getElem?_getD, List.getD_eq_getElem?_getD, List.getElem?_drop, List.getElem?_take, if_pos (by omega)]
  congr 2; omega
theorem impl_num_x {b : List Int} (hb : Byt b) (hm : (b.length : Int) ≤ 100000000) {i : Int} (i0 : 0 ≤ i) (i1 : i + 2 ≤ b.length) : Evx (fun k => impl_NumberAt.f k b i 2) (fun r => r = Num b i) := by
  have e1 : wrap64 ((b.length : Int) - 2) = b.length - 2 := by unfold wrap64; omega
  have e2 : wrap64 (i + 2) = i + 2 := by unfold wrap64; omega
  unfold impl_NumberAt.f
  simp only [impl_in_eq, Option.bind_some]
  rw [e1, decide_eq_false (show ¬ i > (b.length : Int) - 2 by omega)]
  refine Evx.pos (by simp) (Evx.neg (by omega) ?_)
  refine Evx.step (fun k => by rw [impl_NumberAt.j0]) ?_
  rw [e2]
  refine Evx.neg (by simp) (Evx.pos i0 (Evx.pos (by omega) (Evx.pos (by omega) ?_)))
  have hl : ((((b.take (i + 2).toNat).drop i.toNat).length : Nat) : Int) = 2 := by rw [List.length_drop, List.length_take]; omega
  have r0 : rd ((b.take (i + 2).toNat).drop i.toNat) 0 = rd b i := by rw [rd_cut i0 (by omega) (by omega) (by omega)]; congr 1; omega
  have r1 : rd ((b.take (i + 2).toNat).drop i.toNat) 1 = rd b (i + 1) := rd_cut i0 (by omega) (by omega) (by omega)
  generalize (b.take (i + 2).toNat).drop i.toNat = s at hl r0 r1 ⊢
  have h0 := byt_rd hb i
  have h1 := byt_rd hb (i + 1)
  rw [hl]
  refine Evx.step (fun k => by rw [impl_NumberAt.l0]) (Evx.pos (by omega) (Evx.pos (by omega) (Evx.pos (by omega) ?_)))
  have w1 : wrap64 (0 + 1) = 1 := by unfold wrap64; omega
  have w2 : wrap64 (1 + 1) = 2 := by unfold wrap64; omega
  have w3 : wrap64 (0 * 256) = 0 * 256 := by unfold wrap64; omega
  rw [w1, r0, w_byte h0, w3, or_byte (by omega) (by omega) h0.1 (by omega)]
  refine Evx.step (fun k => by rw [impl_NumberAt.l0]) (Evx.pos (by omega) (Evx.pos (by omega) (Evx.pos (by omega) ?_)))
  have w4 : wrap64 ((0 * 256 + rd b i) * 256) = rd b i * 256 := by unfold wrap64; omega
  rw [w2, r1, w_byte h1, w4, or_byte (by omega) (by omega) h1.1 (by omega)]
  refine Evx.step (fun k => by rw [impl_NumberAt.l0]) ?_
  exact Evx.neg (by omega) (Evx.now rfl)
theorem spec_num_x {b : List Int} (hb : Byt b) (hm : (b.length : Int) ≤ 100000000) {i : Int} (i0 : 0 ≤ i) (i1 : i + 2 ≤ b.length) : Evx (fun k => spec_NumberAt.f k b i 2) (fun r => r = Num b i) := by
  have e1 : wrap64 ((b.length : Int) - 2) = b.length - 2 := by unfold wrap64; omega
  unfold spec_NumberAt.f
  simp only [spec_in_eq, Option.bind_some]
  rw [e1, decide_eq_true (show 0 ≤ i ∧ i ≤ (b.length : Int) - 2 by omega)]
  refine Evx.pos (by simp) ?_
  refine Evx.step (fun k => by rw [spec_NumberAt.j0]) (Evx.neg (by simp) ?_)
  have h0 := byt_rd hb i
  have h1 := byt_rd hb (i + 1)
  have w0 : wrap64 (i + 0) = i := by unfold wrap64; omega
  have w1 : wrap64 (0 + 1) = 1 := by unfold wrap64; omega
  have w2 : wrap64 (1 + 1) = 2 := by unfold wrap64; omega
  have w3 : wrap64 (0 * 256) = 0 := by unfold wrap64; omega
  have w5 : wrap64 (i + 1) = i + 1 := by unfold wrap64; omega
  have w6 : wrap64 (0 + rd b i) = rd b i := by unfold wrap64; omega
  refine Evx.step (fun k => by rw [spec_NumberAt.l0]) (Evx.pos (by omega) (Evx.pos (by omega) (Evx.pos (by omega) ?_)))
  rw [w0, w1, w3, w_byte h0, w6]
  refine Evx.step (fun k => by rw [spec_NumberAt.l0]) (Evx.pos (by omega) (Evx.pos (by omega) (Evx.pos (by omega) ?_)))
  have w4 : wrap64 (rd b i * 256) = rd b i * 256 := by unfold wrap64; omega
  have w7 : wrap64 (rd b i * 256 + rd b (i + 1)) = Num b i := by unfold Num wrap64; omega
  rw [w5, w2, w4, w_byte h1, w7]
  refine Evx.step (fun k => by rw [spec_NumberAt.l0]) ?_
  exact Evx.neg (by omega) (Evx.now rfl)
/-- Whether a key and a number are some. -/
def Kok (key n : Int) : Prop := (1 ≤ key ∧ key ≤ 65520) ∧ (0 ≤ n ∧ n ≤ 1000)
instance (key n : Int) : Decidable (Kok key n) := by unfold Kok; infer_instance
/-- What is behind the head of a record. -/
def Dat (b : List Int) : List Int := (b.take (rd b 0 % 128 + 1).toNat).drop 1
/-- What RecordFrom returns. -/
def FromR (key n : Int) (b : List Int) : List Int × Bool × Int :=
  if Kok key n then
    if b.length = 0 then ([], false, 0)
    else if rd b 0 % 128 > 10 then ([], false, -1)
    else if (b.length : Int) < rd b 0 % 128 + 3 then ([], false, 0)
    else if Num b (rd b 0 % 128 + 1) = SealR key n (Dat b) (decide (rd b 0 ≥ 128)) then (Dat b, decide (rd b 0 ≥ 128), rd b 0 % 128 + 3)
    else ([], false, -1)
  else ([], false, -1)
theorem clone_eq {l : List Int} (h : (l.length : Int) ≤ 100000000) : impl_clone_byte.f l = some l := by
  unfold impl_clone_byte.f
  by_cases c : (l.length : Int) = 0
  · have e : l = [] := List.length_eq_zero_iff.1 (by omega)
    subst e; rw [if_pos c]
  · rw [if_neg c]; simp only [Option.bind_some]; rw [if_pos (by simp; omega)]; simp
theorem sealok_nil (key n : Int) : impl_sealOk.f key n [] = some (decide (Kok key n)) := by
  unfold impl_sealOk.f
  simp only [impl_in_eq, Option.bind_some]
  by_cases h : 1 ≤ key ∧ key ≤ 65520
  · rw [if_pos (by simpa using h)]
    by_cases h2 : 0 ≤ n ∧ n ≤ 1000
    · rw [if_pos (by simpa using h2)]; simp [Kok, h, h2]
    · rw [if_neg (by simpa using h2)]; simp [Kok, h, h2]
  · rw [if_neg (by simpa using h)]; simp [Kok, h]
theorem dat_len {b : List Int} (h0 : 0 ≤ rd b 0 % 128) (h1 : rd b 0 % 128 ≤ 10) : (Dat b).length ≤ 10 := by
  unfold Dat; rw [List.length_drop, List.length_take]; omega
theorem impl_from_x (key n : Int) {b : List Int} (hb : Byt b) (hm : (b.length : Int) ≤ 100000000) : Evx (fun k => impl_RecordFrom.f k key n b) (fun r => r = FromR key n b) := by
  have h0 := byt_rd hb 0
  have em : Int.tmod (wrap64 (rd b 0)) 128 = rd b 0 % 128 := by rw [w_byte h0, Int.tmod_eq_emod_of_nonneg h0.1]
  unfold impl_RecordFrom.f
  rw [sealok_nil]; simp only [Option.bind_some]
  rw [em]
  have e1 : wrap64 (rd b 0 % 128 + 1) = rd b 0 % 128 + 1 := by unfold wrap64; omega
  have e3 : wrap64 (rd b 0 % 128 + 3) = rd b 0 % 128 + 3 := by unfold wrap64; omega
  rw [e1, e3]
  unfold FromR
  refine Evx.ite (fun h => ?_) (fun h => ?_)
  · rw [if_pos (by simpa using h)]
    refine Evx.ite (fun h => ?_) (fun h => ?_)
    · rw [if_pos (by omega)]; exact Evx.now rfl
    rw [if_neg (by omega)]
    refine Evx.pos (by omega) ?_
    refine Evx.ite (fun h => ?_) (fun h => ?_)
    · rw [if_pos h]; exact Evx.now rfl
    rw [if_neg h]
    refine Evx.ite (fun h => ?_) (fun h => ?_)
    · rw [if_pos h]; exact Evx.now rfl
    rw [if_neg h]
    refine Evx.pos (by omega) (Evx.pos (by omega) ?_)
    have hd := dat_len (b := b) (by omega) (by omega)
    have hc : impl_clone_byte.f ((b.take (rd b 0 % 128 + 1).toNat).drop 1) = some (Dat b) := clone_eq (l := Dat b) (by omega)
    rw [hc]; simp only [Option.bind_some]
    refine Evx.bind (impl_seal_x key n (l := Dat b) (byt_drop (byt_take hb _) _) (by omega) _) fun s hs => ?_
    refine Evx.bind (impl_num_x hb hm (by omega) (by omega)) fun m hm' => ?_
    subst hs hm'
    refine Evx.ite (fun h => ?_) (fun h => ?_)
    · rw [if_pos h.symm]; exact Evx.now rfl
    · rw [if_neg (fun q => h q.symm)]; exact Evx.now rfl
  · rw [if_neg (by simpa using h)]; exact Evx.now rfl
theorem spec_from_x (key n : Int) {b : List Int} (hb : Byt b) (hm : (b.length : Int) ≤ 100000000) : Evx (fun k => spec_RecordFrom.f k key n b) (fun r => r = FromR key n b) := by
  have h0 := byt_rd hb 0
  have em : Int.tmod (wrap64 (rd b 0)) 128 = rd b 0 % 128 := by rw [w_byte h0, Int.tmod_eq_emod_of_nonneg h0.1]
  have e1 : wrap64 (1 + rd b 0 % 128) = rd b 0 % 128 + 1 := by unfold wrap64; omega
  have e3 : wrap64 (rd b 0 % 128 + 3) = rd b 0 % 128 + 3 := by unfold wrap64; omega
  have no : ¬ Kok key n → Evx (fun k => spec_RecordFrom.j0 k key n b true) (fun r => r = FromR key n b) := by
    intro h
    refine Evx.step (fun k => by rw [spec_RecordFrom.j0]) (Evx.pos rfl (Evx.now ?_))
    unfold FromR; rw [if_neg h]
  unfold spec_RecordFrom.f
  simp only [spec_in_eq, Option.bind_some]
  refine Evx.ite (fun h => ?_) (fun h => no (fun q => h (by simpa using q.1)))
  by_cases h2 : 0 ≤ n ∧ n ≤ 1000
  · rw [decide_eq_true h2]
    have hk : Kok key n := ⟨by simpa using h, h2⟩
    unfold FromR
    rw [if_pos hk]
    refine Evx.step (fun k => by rw [spec_RecordFrom.j0]) (Evx.neg (by simp) ?_)
    rw [em, e1, e3]
    refine Evx.ite (fun h => ?_) (fun h => ?_)
    · rw [if_pos (by omega)]; exact Evx.now rfl
    rw [if_neg (by omega)]
    refine Evx.pos (by omega) ?_
    refine Evx.ite (fun h => ?_) (fun h => ?_)
    · rw [if_pos h]; exact Evx.now rfl
    rw [if_neg h]
    refine Evx.ite (fun h => ?_) (fun h => ?_)
    · rw [if_pos h]; exact Evx.now rfl
    rw [if_neg h]
    simp only [Option.bind_some, List.nil_append, List.length_nil]
    have hd := dat_len (b := b) (by omega) (by omega)
    refine Evx.pos (by omega) (Evx.pos (by omega) (Evx.pos (by unfold Dat at hd; omega) ?_))
    refine Evx.bind (spec_num_x hb hm (by omega) (by omega)) fun m hm' => ?_
    refine Evx.bind (spec_seal_x key n (l := Dat b) (byt_drop (byt_take hb _) _) _) fun s hs => ?_
    subst hs hm'
    refine Evx.ite (fun h => ?_) (fun h => ?_)
    · rw [if_pos (show _ = SealR key n (Dat b) _ from h)]; exact Evx.now rfl
    · rw [if_neg (show ¬ _ = SealR key n (Dat b) _ from h)]; exact Evx.now rfl
  · rw [decide_eq_false h2]; exact no (fun q => h2 q.2)
theorem fromr_len (key n : Int) {b : List Int} (hb : Byt b) : (FromR key n b).1.length ≤ 10 := by
  have h0 := byt_rd hb 0
  unfold FromR
  split
  · split
    · simp
    · split
      · simp
      · split
        · simp
        · split
          · exact dat_len (by omega) (by omega)
          · simp
  · simp
theorem fromr_byt (key n : Int) {b : List Int} (hb : Byt b) : Byt (FromR key n b).1 := by
  unfold FromR
  split
  · split
    · exact byt_nil
    · split
      · exact byt_nil
      · split
        · exact byt_nil
        · split
          · exact byt_drop (byt_take hb _) _
          · exact byt_nil
  · exact byt_nil

/-- What Opened returns, with what was read before. -/
def OpenR (key : Int) : Nat → Int → List Int → List Int → List Int × Bool
  | 0, _, _, out => (out, false)
  | d + 1, n, b, out => if (FromR key n b).2.2 ≤ 0 then (out, false) else if (FromR key n b).2.1 = true then (out ++ (FromR key n b).1, decide ((b.length : Int) = (FromR key n b).2.2)) else OpenR key d (n + 1) (b.drop (FromR key n b).2.2.toNat) (out ++ (FromR key n b).1)
theorem fromr_pos {key n : Int} {b : List Int} (hb : Byt b) (h : ¬ (FromR key n b).2.2 ≤ 0) : 3 ≤ (FromR key n b).2.2 ∧ (FromR key n b).2.2 ≤ b.length ∧ ((FromR key n b).1.length : Int) = (FromR key n b).2.2 - 3 := by
  have h0 := byt_rd hb 0
  unfold FromR at h ⊢
  by_cases c1 : Kok key n
  · rw [if_pos c1] at h ⊢
    by_cases c2 : b.length = 0
    · rw [if_pos c2] at h; exact absurd (Int.le_refl 0) h
    · rw [if_neg c2] at h ⊢
      by_cases c3 : rd b 0 % 128 > 10
      · rw [if_pos c3] at h; exact absurd (show (-1 : Int) ≤ 0 by omega) h
      · rw [if_neg c3] at h ⊢
        by_cases c4 : (b.length : Int) < rd b 0 % 128 + 3
        · rw [if_pos c4] at h; exact absurd (Int.le_refl 0) h
        · rw [if_neg c4] at h ⊢
          by_cases c5 : Num b (rd b 0 % 128 + 1) = SealR key n (Dat b) (decide (rd b 0 ≥ 128))
          · rw [if_pos c5]
            refine ⟨?_, ?_, ?_⟩
            · show (3 : Int) ≤ rd b 0 % 128 + 3; omega
            · show rd b 0 % 128 + 3 ≤ _; omega
            · show ((Dat b).length : Int) = rd b 0 % 128 + 3 - 3
              unfold Dat; rw [List.length_drop, List.length_take]; omega
          · rw [if_neg c5] at h; exact absurd (show (-1 : Int) ≤ 0 by omega) h
  · rw [if_neg c1] at h; exact absurd (show (-1 : Int) ≤ 0 by omega) h
theorem impl_opened_l (key : Int) (d : Nat) : ∀ (b out : List Int) (n : Int), b.length < d → Byt b → 0 ≤ n → n + b.length ≤ 10000000 → out.length + b.length ≤ 10000000 →
    Evx (fun k => impl_Opened.l0 k key b out n) (fun r => r = OpenR key d n b out) := by
  induction d with
  | zero => intro b out n h; omega
  | succ d ih =>
    intro b out n h hb n0 hn ho
    refine Evx.step (fun k => by rw [impl_Opened.l0]) ?_
    refine Evx.bind (impl_from_x key n hb (by omega)) fun r hr => ?_
    have hp := fromr_pos (key := key) (n := n) hb
    unfold OpenR
    rw [← hr] at hp ⊢
    refine Evx.ite (fun c => ?_) (fun c => ?_)
    · rw [if_pos c, clone_eq (by omega)]; exact Evx.now rfl
    · rw [if_neg c]
      have hp := hp c
      have hal : ((out ++ r.1).length : Int) = out.length + r.1.length := by simp
      simp only [Option.bind_some]
      refine Evx.pos (by omega) (Evx.pos (by omega) (Evx.pos hp.2.1 ?_))
      rw [clone_eq (by omega)]
      simp only [Option.bind_some]
      refine Evx.ite (fun c2 => ?_) (fun c2 => ?_)
      · rw [if_pos c2]
        refine Evx.now ?_
        congr 1
        rw [List.length_drop, Bool.eq_iff_iff]
        simp
        omega
      · rw [if_neg c2]
        have e : wrap64 (n + 1) = n + 1 := by unfold wrap64; omega
        rw [e]
        exact ih _ _ _ (by rw [List.length_drop]; omega) (byt_drop hb _) (by omega) (by rw [List.length_drop]; omega) (by rw [List.length_drop]; omega)
theorem spec_opened_l (key : Int) {l : List Int} (hl : Byt l) (hm : (l.length : Int) ≤ 2000000) (d : Nat) : ∀ (out : List Int) (n a : Int), (l.length : Int) - a < d → 0 ≤ a → a ≤ l.length → 0 ≤ n → n ≤ a → out.length ≤ a →
    Evx (fun k => spec_Opened.l0 k key l out n a) (fun r => r = OpenR key d n (l.drop a.toNat) out) := by
  induction d with
  | zero => intro out n a h; omega
  | succ d ih =>
    intro out n a h a0 a1 n0 hn ho
    have hb : Byt (l.drop a.toNat) := byt_drop hl _
    have hdl : ((l.drop a.toNat).length : Int) = l.length - a := by rw [List.length_drop]; omega
    refine Evx.step (fun k => by rw [spec_Opened.l0]) (Evx.pos a1 (Evx.pos a0 ?_))
    refine Evx.bind (spec_from_x key n hb (by omega)) fun r hr => ?_
    have hp := fromr_pos (key := key) (n := n) hb
    unfold OpenR
    rw [← hr] at hp ⊢
    refine Evx.ite (fun c => ?_) (fun c => ?_)
    · rw [if_pos (by omega)]; exact Evx.now rfl
    · rw [if_neg (by omega)]
      have hp := hp (by omega)
      have hal : ((out ++ r.1).length : Int) = out.length + r.1.length := by simp
      have e : wrap64 (n + 1) = n + 1 := by unfold wrap64; omega
      have ea : wrap64 (a + r.2.2) = a + r.2.2 := by unfold wrap64; omega
      rw [e, ea]
      simp only [Option.bind_some]
      refine Evx.pos (by omega) ?_
      refine Evx.ite (fun c2 => ?_) (fun c2 => ?_)
      · rw [if_pos c2]
        refine Evx.now ?_
        congr 1
        rw [hdl, Bool.eq_iff_iff]
        simp
        omega
      · rw [if_neg c2]
        have ed : (l.drop a.toNat).drop r.2.2.toNat = l.drop (a + r.2.2).toNat := by rw [List.drop_drop]; congr 1; omega
        rw [ed]
        exact ih _ _ _ (by omega) (by omega) (by omega) (by omega) (by omega) (by omega)
theorem openr_len (key : Int) (d : Nat) : ∀ (n : Int) (b out : List Int), Byt b → (OpenR key d n b out).1.length ≤ out.length + b.length := by
  induction d with
  | zero => intro n b out hb; simp [OpenR]
  | succ d ih =>
    intro n b out hb
    have hp := fromr_pos (key := key) (n := n) hb
    unfold OpenR
    split
    · simp
    · rename_i c
      have hp := hp c
      split
      · simp; omega
      · have h1 := ih (n + 1) (b.drop (FromR key n b).2.2.toNat) (out ++ (FromR key n b).1) (byt_drop hb _)
        rw [List.length_append, List.length_drop] at h1
        omega
/-- What Opened returns. -/
def OpenedR (key : Int) (b : List Int) : List Int × Bool := OpenR key (b.length + 1) 0 b []
theorem openedr_len (key : Int) {b : List Int} (hb : Byt b) : (OpenedR key b).1.length ≤ b.length := by
  have := openr_len key (b.length + 1) 0 b [] hb
  unfold OpenedR
  simpa using this
theorem impl_opened_x (key : Int) {b : List Int} (hb : Byt b) (hm : (b.length : Int) ≤ 2000000) : Evx (fun k => impl_Opened.f k key b) (fun r => r = OpenedR key b) := by
  unfold impl_Opened.f
  exact impl_opened_l key (b.length + 1) b [] 0 (by omega) hb (by omega) (by omega) (by simp; omega)
theorem spec_opened_x (key : Int) {b : List Int} (hb : Byt b) (hm : (b.length : Int) ≤ 2000000) : Evx (fun k => spec_Opened.f k key b) (fun r => r = OpenedR key b) := by
  unfold spec_Opened.f
  exact spec_opened_l key hb hm (b.length + 1) [] 0 0 (by omega) (by omega) (by omega) (by omega) (by omega) (by simp)

theorem rd_set {l : List Int} {i j v : Int} (i0 : 0 ≤ i) (i1 : i < l.length) (j0 : 0 ≤ j) : rd (l.set i.toNat v) j = if i = j then v else rd l j := by
  have hi : i.toNat < l.length := by omega
  unfold rd
  rw [List.getD_eq_getElem?_getD, List.getD_eq_getElem?_getD, List.getElem?_set]
  by_cases h : i = j
  · subst h; rw [if_pos rfl, if_pos hi, if_pos rfl]; rfl
  · rw [if_neg (by omega), if_neg h]
/-- Every element is the next number. -/
def Mkd (a : Int) (l : List Int) : Prop := ∀ j : Int, 0 ≤ j → j < l.length → rd l j = (a + j) % 256
theorem mark_l {n : Nat} (hn : (n : Int) ≤ 100000000) {a : Int} (a0 : 0 ≤ a) (a1 : a ≤ 100000000) (d : Nat) : ∀ (x : List Int) (i : Int), x.length = n → 0 ≤ i → i ≤ n → n - i = d → (∀ j : Int, 0 ≤ j → j < i → rd x j = (a + j) % 256) →
    Evx (fun k => laws_markByteS.l0 k x (a + i) i) (fun r => r.1 = a + n ∧ r.2.length = n ∧ Mkd a r.2) := by
  induction d with
  | zero =>
    intro x i hx i0 hi hd H
    have e : i = n := by omega
    refine Evx.step (fun k => by rw [laws_markByteS.l0]) (Evx.neg (by omega) (Evx.now ⟨by omega, hx, fun j j0 j1 => H j j0 (by have : j < x.length := j1; omega)⟩))
  | succ d ih =>
    intro x i hx i0 hi hd H
    refine Evx.step (fun k => by rw [laws_markByteS.l0]) (Evx.pos (by omega) (Evx.pos i0 ?_))
    have e1 : wrap64 (i + 1) = i + 1 := by unfold wrap64; omega
    have e2 : wrap64 (a + i + 1) = a + (i + 1) := by unfold wrap64; omega
    rw [e1, e2]
    refine ih _ _ (by simp [hx]) (by omega) (by omega) (by omega) fun j j0 j1 => ?_
    rw [rd_set i0 (by omega) j0]
    by_cases h : i = j
    · rw [if_pos h, h]
    · rw [if_neg h]; exact H j j0 (by omega)
theorem mark_x {l : List Int} (hl : (l.length : Int) ≤ 100000000) {a : Int} (a0 : 0 ≤ a) (a1 : a ≤ 100000000) :
    Evx (fun k => laws_markByteS.f k l a) (fun r => r.1 = a + l.length ∧ r.2.length = l.length ∧ Mkd a r.2) := by
  unfold laws_markByteS.f
  have := mark_l hl a0 a1 l.length l 0 rfl (by omega) (by omega) (by omega) (fun j j0 j1 => by omega)
  simpa using this
theorem held_l {l : List Int} (hl : (l.length : Int) ≤ 100000000) {a : Int} (a0 : 0 ≤ a) (a1 : a ≤ 100000000) (H : Mkd a l) (d : Nat) : ∀ (i : Int), 0 ≤ i → i ≤ l.length → l.length - i = d →
    Evx (fun k => laws_heldByteS.l0 k l (a + i) i) (fun r => r = a + l.length) := by
  induction d with
  | zero =>
    intro i i0 hi hd
    refine Evx.step (fun k => by rw [laws_heldByteS.l0]) (Evx.neg (by omega) (Evx.now (by omega)))
  | succ d ih =>
    intro i i0 hi hd
    refine Evx.step (fun k => by rw [laws_heldByteS.l0]) (Evx.pos (by omega) (Evx.pos i0 (Evx.pos (H i i0 (by omega)) ?_)))
    have e1 : wrap64 (i + 1) = i + 1 := by unfold wrap64; omega
    have e2 : wrap64 (a + i + 1) = a + (i + 1) := by unfold wrap64; omega
    rw [e1, e2]
    exact ih _ (by omega) (by omega) (by omega)
theorem held_x {l : List Int} (hl : (l.length : Int) ≤ 100000000) {a : Int} (a0 : 0 ≤ a) (a1 : a ≤ 100000000) (H : Mkd a l) :
    Evx (fun k => laws_heldByteS.f k l a) (fun r => r = a + l.length) := by
  unfold laws_heldByteS.f
  have := held_l hl a0 a1 H l.length 0 (by omega) (by omega) (by omega)
  simpa using this

theorem toB_l {l : List Int} (hl : (l.length : Int) ≤ 100000000) (d : Nat) : ∀ i : Nat, i ≤ l.length → l.length - i = d →
    Evx (fun k => laws_toByteS.l0 k l (l.take i ++ List.replicate (l.length - i) 0) (i : Int)) (fun r => r = l) := by
  induction d with
  | zero =>
    intro i hi hd
    have : i = l.length := by omega
    subst this
    refine Evx.step (fun k => by rw [laws_toByteS.l0]) (Evx.neg (by omega) (Evx.now ?_))
    simp
  | succ d ih =>
    intro i hi hd
    refine Evx.step (fun k => by rw [laws_toByteS.l0]) (Evx.pos (by omega) (Evx.pos (by omega) (Evx.pos (by simp; omega) ?_)))
    have e : wrap64 ((i : Int) + 1) = ((i + 1 : Nat) : Int) := by unfold wrap64; omega
    have hil : i < l.length := by omega
    have s : (l.take i ++ List.replicate (l.length - i) 0).set ((i : Int)).toNat (rd l (i : Int)) = l.take (i + 1) ++ List.replicate (l.length - (i + 1)) 0 := by
      unfold rd
      rw [Int.toNat_natCast, List.getD_eq_getElem?_getD, List.getElem?_eq_getElem hil]
      apply List.ext_getElem?
      intro j
      rw [List.getElem?_set]
      by_cases hj : i = j
      · subst hj
        rw [if_pos rfl, if_pos (by simp; omega), List.getElem?_append_left (by simp; omega), List.getElem?_take, if_pos (by omega), List.getElem?_eq_getElem hil]
        rfl
      · rw [if_neg hj]
        rcases Nat.lt_or_ge j i with h | h
        · rw [List.getElem?_append_left (by simp; omega), List.getElem?_append_left (by simp; omega), List.getElem?_take, List.getElem?_take, if_pos h, if_pos (by omega)]
        · rw [List.getElem?_append_right (by simp; omega), List.getElem?_append_right (by simp; omega)]
          simp only [List.length_take, List.getElem?_replicate]
          have e1 : min i l.length = i := by omega
          have e2 : min (i + 1) l.length = i + 1 := by omega
          rw [e1, e2]
          by_cases hlt : j < l.length
          · rw [if_pos (by omega), if_pos (by omega)]
          · rw [if_neg (by omega), if_neg (by omega)]
    rw [e, s]
    exact ih (i + 1) (by omega) (by omega)
theorem toB_x {l : List Int} (hl : (l.length : Int) ≤ 100000000) : Evx (fun k => laws_toByteS.f k l) (fun r => r = l) := by
  unfold laws_toByteS.f
  refine Evx.pos (by omega) (Evx.pos (by omega) ?_)
  have := toB_l hl l.length 0 (by omega) (by omega)
  simpa using this

theorem eqB_l {l : List Int} (hl : (l.length : Int) ≤ 100000000) (d : Nat) : ∀ i : Int, 0 ≤ i → i ≤ l.length → l.length - i = d →
    Evx (fun k => laws_eqByteS.l0 k l l i) (fun r => r = true) := by
  induction d with
  | zero =>
    intro i i0 hi hd
    exact Evx.step (fun k => by rw [laws_eqByteS.l0]) (Evx.neg (by omega) (Evx.now rfl))
  | succ d ih =>
    intro i i0 hi hd
    refine Evx.step (fun k => by rw [laws_eqByteS.l0]) (Evx.pos (by omega) (Evx.pos i0 (Evx.pos (by omega) (Evx.pos rfl ?_))))
    have e : wrap64 (i + 1) = i + 1 := by unfold wrap64; omega
    rw [e]
    exact ih _ (by omega) (by omega) (by omega)
theorem eqB_x {l : List Int} (hl : (l.length : Int) ≤ 100000000) : Evx (fun k => laws_eqByteS.f k l l) (fun r => r = true) := by
  unfold laws_eqByteS.f
  exact Evx.pos rfl (eqB_l hl l.length 0 (by omega) (by omega) (by omega))

theorem FnExactOpened : laws_FnExactOpened.Pure := by
  intro key l _ hm hn hw
  have hb := byt_wf hw
  have hne : ∀ z : Bool, (z != z) = false := fun z => by simp
  refine Evx.law (g := fun k => laws_FnExactOpened.f k key l) ?_
  unfold laws_FnExactOpened.f
  refine Evx.ite (fun _ => Evx.now rfl) (fun hlen => ?_)
  have hl : (l.length : Int) ≤ 100000000 := by omega
  have hl2 : (l.length : Int) ≤ 2000000 := by omega
  have hr : ((OpenedR key l).1.length : Int) ≤ l.length := by have := openedr_len key hb; omega
  refine Evx.bind (toB_x hl) fun r1 e1 => ?_
  subst e1
  refine Evx.bind (spec_opened_x key hb hl2) fun r2 e2 => ?_
  subst e2
  refine Evx.bind (toB_x hl) fun r3 e3 => ?_
  subst e3
  refine Evx.bind (impl_opened_x key hb hl2) fun r4 e4 => ?_
  subst e4
  refine Evx.bind (eqB_x (by omega)) fun r6 e6 => Evx.pos e6 ?_
  rw [hne]
  refine Evx.step (fun k => by rw [laws_FnExactOpened.j0]) (Evx.neg (by simp) ?_)
  refine Evx.bind (toB_x hl) fun r5 e5 => ?_
  subst e5
  refine Evx.bind (eqB_x hl) fun r7 e7 => Evx.pos e7 ?_
  refine Evx.bind (mark_x hl (by omega) (by omega)) fun b1 eb1 => ?_
  refine Evx.neg (by omega) ?_
  refine Evx.bind (eqB_x (by omega)) fun r8 e8 => Evx.pos e8 ?_
  refine Evx.step (fun k => by rw [laws_FnExactOpened.j1]) (Evx.neg (by simp) ?_)
  refine Evx.bind (mark_x (by omega) (by omega) (by omega)) fun b2 eb2 => ?_
  refine Evx.bind (held_x (by omega) (by omega) (by omega) eb2.2.2) fun q1 eq1 => ?_
  refine Evx.neg (by omega) (Evx.pos (by omega) ?_)
  refine Evx.bind (toB_x hl) fun r9 e9 => ?_
  subst e9
  refine Evx.bind (impl_opened_x key hb hl2) fun r10 e10 => ?_
  subst e10
  refine Evx.bind (eqB_x (by omega)) fun r11 e11 => Evx.pos e11 ?_
  rw [hne]
  refine Evx.step (fun k => by rw [laws_FnExactOpened.j2]) (Evx.neg (by simp) ?_)
  refine Evx.bind (held_x (by omega) (by omega) (by omega) eb2.2.2) fun q2 eq2 => ?_
  exact Evx.neg (by omega) (Evx.pos (by omega) (Evx.now rfl))

end Go.Proofs.Ytgabediginlabaa.Pure
