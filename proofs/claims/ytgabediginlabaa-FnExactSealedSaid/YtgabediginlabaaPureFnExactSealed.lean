/- The plain statement of FnExactSealed: for all arguments, the law's function comes to true; there is no condition beyond those it names. -/
import Derived.Test.YtgabediginlabaaGFnExactSealedx4
set_option linter.unusedVariables false
set_option linter.unusedSimpArgs false
set_option maxRecDepth 100000
namespace Go.Proofs.Ytgabediginlabaa.Pure
open Go.RowKit Go.Proofs.Ytgabediginlabaa.GFnExactSealed Go.Proofs.YtgabediginlabaaU.PrintWords Go.Proofs.YtgabediginlabaaU.PrintLast Go.Proofs.YtgabediginlabaaU.PrintMore

theorem w64 {x : Int} (h0 : -9223372036854775808 ≤ x) (h1 : x ≤ 9223372036854775807) : wrap64 x = x := by unfold wrap64; omega

/-- It comes to an answer of which P holds. -/
def Evx {α : Type} (g : Nat → Option α) (P : α → Prop) : Prop := ∃ r, Ev g r ∧ P r
theorem Evx.bind {α β : Type} {g : Nat → Option α} {f : Nat → α → Option β} {P : α → Prop} {Q : β → Prop} (h : Evx g P) (k : ∀ a, P a → Evx (fun n => f n a) Q) : Evx (fun n => (g n).bind (f n)) Q := by
  obtain ⟨a, ha, pa⟩ := h
  obtain ⟨r, hr, qr⟩ := k a pa
  exact ⟨r, Ev.bind ha hr, qr⟩
theorem Evx.now {α : Type} {P : α → Prop} {r : α} (h : P r) : Evx (fun _ => some r) P := ⟨r, Ev.now r, h⟩
theorem Evx.pos {α : Type} {c : Prop} [Decidable c] {f g : Nat → Option α} {P : α → Prop} (hc : c) (h : Evx f P) : Evx (fun n => if c then f n else g n) P := by
  simp only [if_pos hc]; exact h
theorem Evx.neg {α : Type} {c : Prop} [Decidable c] {f g : Nat → Option α} {P : α → Prop} (hc : ¬ c) (h : Evx g P) : Evx (fun n => if c then f n else g n) P := by
  simp only [if_neg hc]; exact h
theorem Evx.ite {α : Type} {c : Prop} [Decidable c] {f g : Nat → Option α} {P : α → Prop} (h : c → Evx f P) (k : ¬ c → Evx g P) : Evx (fun n => if c then f n else g n) P := by
  by_cases hc : c
  · exact Evx.pos hc (h hc)
  · exact Evx.neg hc (k hc)
theorem Evx.step {α : Type} {g f : Nat → Option α} {P : α → Prop} (h : ∀ k, g (k + 1) = f k) (k : Evx f P) : Evx g P := by
  obtain ⟨r, hr, p⟩ := k
  exact ⟨r, Ev.step h hr, p⟩
theorem Evx.mono {α : Type} {g : Nat → Option α} {P Q : α → Prop} (h : Evx g P) (k : ∀ r, P r → Q r) : Evx g Q := by
  obtain ⟨r, hr, p⟩ := h
  exact ⟨r, hr, k r p⟩
theorem Evx.law {g : Nat → Option Bool} (h : Evx g (fun r => r = true)) : ∃ k, g k = some true := by
  obtain ⟨r, hr, rfl⟩ := h
  exact hr.rounds
theorem Evx.of {α : Type} {g : Nat → Option α} {r : α} {P : α → Prop} (hg : ∀ k, LeO (g k) (g (k + 1))) {k : Nat} (h : g k = some r) (p : P r) : Evx g P := ⟨r, Ev.of hg h, p⟩

/-- All are bytes. -/
def Byt (l : List Int) : Prop := ∀ x ∈ l, 0 ≤ x ∧ x ≤ 255
theorem byt_wf {l : List Int} (h : ∀ x ∈ l, (Lit.int .u8 x).wf = true) : Byt l := by
  intro x hx
  have := h x hx
  simp [Lit.wf, IntKind.min, IntKind.max, IntKind.signed, IntKind.bits] at this
  omega
theorem byt_rd {l : List Int} (h : Byt l) (i : Int) : 0 ≤ rd l i ∧ rd l i ≤ 255 := by
  unfold rd
  by_cases hi : i.toNat < l.length
  · rw [List.getD_eq_getElem?_getD, List.getElem?_eq_getElem hi]; exact h _ (List.getElem_mem hi)
  · rw [List.getD_eq_getElem?_getD, List.getElem?_eq_none (by omega)]; simp
theorem xor_nn {x y : Int} (hx : 0 ≤ x) (hx1 : x < 4611686018427387904) (hy : 0 ≤ y) (hy1 : y < 4611686018427387904) : 0 ≤ Go.bits .xor .i64 x y := by
  obtain ⟨a, rfl⟩ := Int.eq_ofNat_of_zero_le hx
  obtain ⟨b, rfl⟩ := Int.eq_ofNat_of_zero_le hy
  have ha : a < 2 ^ 62 := by omega
  have hb : b < 2 ^ 62 := by omega
  have hc := Nat.xor_lt_two_pow ha hb
  unfold Go.bits
  simp only [BitVec.ofInt_natCast, BitVec.toNat_xor, BitVec.toNat_ofNat]
  rw [IntKind.wrap_i64]
  have e : IntKind.i64.bits = 64 := rfl
  rw [e, Nat.mod_eq_of_lt (by omega), Nat.mod_eq_of_lt (by omega)]
  omega

theorem impl_in_eq (a b c : Int) : impl_in.f a b c = some (decide (b ≤ a ∧ a ≤ c)) := by
  unfold impl_in.f
  by_cases h : b ≤ a
  · rw [if_pos h]; simp [h]
  · rw [if_neg (by omega)]; simp [h]
theorem spec_in_eq (a b c : Int) : spec_l1In.f a b c = some (decide (b ≤ a ∧ a ≤ c)) := by
  unfold spec_l1In.f
  by_cases h : b ≤ a
  · rw [if_pos h]; simp [h]
  · rw [if_neg (by omega)]; simp [h]

/-- One byte more goes into a seal. -/
def Stp (key x b : Int) : Int := (x * key + b + 1) % 65521
def Fld (key x : Int) (l : List Int) : Int := l.foldl (Stp key) x
/-- The seal of bytes. -/
def Seal (key n : Int) (l : List Int) (last : Bool) : Int := Fld key (n + 1) (l ++ [if last then 1 else 0]) * key % 65521
/-- What can be sealed. -/
def Sok (key n : Int) (l : List Int) : Prop := (1 ≤ key ∧ key ≤ 65520) ∧ (0 ≤ n ∧ n ≤ 1000) ∧ l.length ≤ 10
instance (key n : Int) (l : List Int) : Decidable (Sok key n l) := by unfold Sok; infer_instance
def SealR (key n : Int) (l : List Int) (last : Bool) : Int := if Sok key n l then Seal key n l last else -1
theorem stp_rng (key x b : Int) : 0 ≤ Stp key x b ∧ Stp key x b < 65521 := by unfold Stp; omega
theorem mul_rng {key x : Int} (k0 : 1 ≤ key) (k1 : key ≤ 65520) (x0 : 0 ≤ x) (x1 : x < 65521) : 0 ≤ x * key ∧ x * key ≤ 4292870400 := by
  refine ⟨Int.mul_nonneg x0 (by omega), ?_⟩
  have := Int.mul_le_mul (show x ≤ 65520 by omega) k1 (by omega) (by omega)
  omega
theorem go_stp {key x b : Int} (k0 : 1 ≤ key) (k1 : key ≤ 65520) (x0 : 0 ≤ x) (x1 : x < 65521) (b0 : 0 ≤ b) (b1 : b ≤ 255) :
    Int.tmod (wrap64 ((wrap64 ((wrap64 (x * key)) + b)) + 1)) 65521 = Stp key x b := by
  have := mul_rng k0 k1 x0 x1
  unfold Stp
  generalize x * key = z at this ⊢
  have e1 : wrap64 z = z := by unfold wrap64; omega
  have e2 : wrap64 (z + b) = z + b := by unfold wrap64; omega
  have e3 : wrap64 (z + b + 1) = z + b + 1 := by unfold wrap64; omega
  rw [e1, e2, e3, Int.tmod_eq_emod_of_nonneg (by omega)]
theorem go_last {key x : Int} (k0 : 1 ≤ key) (k1 : key ≤ 65520) (x0 : 0 ≤ x) (x1 : x < 65521) : Int.tmod (wrap64 (x * key)) 65521 = x * key % 65521 := by
  have := mul_rng k0 k1 x0 x1
  generalize x * key = z at this ⊢
  have e1 : wrap64 z = z := by unfold wrap64; omega
  rw [e1, Int.tmod_eq_emod_of_nonneg (by omega)]
theorem fld_rng {key : Int} (l : List Int) : ∀ {x : Int}, 0 ≤ x → x < 65521 → 0 ≤ Fld key x l ∧ Fld key x l < 65521 := by
  induction l with
  | nil => intro x h0 h1; exact ⟨h0, h1⟩
  | cons b l ih => intro x h0 h1; exact ih (stp_rng key x b).1 (stp_rng key x b).2
theorem rd_drop {l : List Int} {i : Int} (h0 : 0 ≤ i) (h1 : i < l.length) : l.drop i.toNat = rd l i :: l.drop (i + 1).toNat := by
  have hi : i.toNat < l.length := by omega
  rw [List.drop_eq_getElem_cons hi]
  unfold rd
  rw [List.getD_eq_getElem?_getD, List.getElem?_eq_getElem hi]
  have : (i + 1).toNat = i.toNat + 1 := by omega
  rw [this]; rfl
theorem w_byte {b : Int} (h : 0 ≤ b ∧ b ≤ 255) : wrap64 b = b := by unfold wrap64; omega
theorem impl_seal_l {key : Int} (k0 : 1 ≤ key) (k1 : key ≤ 65520) {y : List Int} (hy : Byt y) (hl : (y.length : Int) ≤ 1000) (d : Nat) : ∀ x i : Int, 0 ≤ x → x < 65521 → 0 ≤ i → i ≤ y.length → y.length - i = d →
    Evx (fun k => impl_SealOf.l0 k key x y (y.length : Int) i) (fun r => r = Fld key x (y.drop i.toNat) * key % 65521) := by
  induction d with
  | zero =>
    intro x i x0 x1 i0 i1 hd
    refine Evx.step (fun k => by rw [impl_SealOf.l0]) (Evx.neg (by omega) (Evx.now ?_))
    rw [go_last k0 k1 x0 x1, List.drop_of_length_le (by omega)]; rfl
  | succ d ih =>
    intro x i x0 x1 i0 i1 hd
    refine Evx.step (fun k => by rw [impl_SealOf.l0]) (Evx.pos (by omega) (Evx.pos i0 (Evx.pos (by omega) ?_)))
    have hb := byt_rd hy i
    have e : wrap64 (i + 1) = i + 1 := by unfold wrap64; omega
    rw [w_byte hb, go_stp k0 k1 x0 x1 hb.1 hb.2, e, rd_drop i0 (by omega)]
    exact ih _ _ (stp_rng _ _ _).1 (stp_rng _ _ _).2 (by omega) (by omega) (by omega)
theorem impl_seal_x (key n : Int) {l : List Int} (hl : Byt l) (hn : (l.length : Int) ≤ 100000000) (last : Bool) : Evx (fun k => impl_SealOf.f k key n l last) (fun r => r = SealR key n l last) := by
  have hok : impl_sealOk.f key n l = some (decide (Sok key n l)) := by
    unfold impl_sealOk.f
    simp only [impl_in_eq, Option.bind_some]
    by_cases h : 1 ≤ key ∧ key ≤ 65520
    · rw [if_pos (by simpa using h)]
      by_cases h2 : 0 ≤ n ∧ n ≤ 1000
      · rw [if_pos (by simpa using h2)]
        have e : ((l.length : Int) ≤ 10) ↔ l.length ≤ 10 := by omega
        simp [Sok, h, h2, e]
      · rw [if_neg (by simpa using h2)]; simp [Sok, h, h2]
    · rw [if_neg (by simpa using h)]; simp [Sok, h]
  have hbit : impl_bit.f last 1 = some (if last then 1 else 0) := by
    unfold impl_bit.f; cases last <;> rfl
  unfold impl_SealOf.f
  rw [hok, hbit]; simp only [Option.bind_some]
  refine Evx.ite (fun h => ?_) (fun h => Evx.now ?_)
  · have h : Sok key n l := by simpa using h
    refine Evx.pos (by simp; omega) (Evx.pos (by simp; omega) ?_)
    have e1 : wrap64 (n + 1) = n + 1 := by have := h.2.1; unfold wrap64; omega
    have e2 : (if last = true then (1 : Int) else 0) % 256 = if last then 1 else 0 := by cases last <;> rfl
    rw [e1, e2, List.nil_append]
    have hy : Byt (l ++ [if last = true then (1 : Int) else 0]) := by
      intro x hx
      rcases List.mem_append.1 hx with hx | hx
      · exact hl x hx
      · rw [List.mem_singleton] at hx; cases last <;> simp at hx <;> omega
    have hlen : ((l ++ [if last = true then (1 : Int) else 0]).length : Int) = l.length + 1 := by simp
    have := h.2.1
    have h3 := h.2.2
    refine (impl_seal_l h.1.1 h.1.2 hy (by rw [hlen]; omega) (l ++ [if last = true then (1 : Int) else 0]).length (n + 1) 0 (by omega) (by omega) (by omega) (by omega) (by omega)).mono ?_
    intro r hr
    rw [hr]; unfold SealR Seal; rw [if_pos h]; rfl
  · have h : ¬ Sok key n l := by simpa using h
    unfold SealR; rw [if_neg h]
theorem fld_snoc (key x b : Int) (l : List Int) : Fld key x (l ++ [b]) = Stp key (Fld key x l) b := by simp [Fld]
theorem spec_seal_l {key : Int} (k0 : 1 ≤ key) (k1 : key ≤ 65520) {y : List Int} (hy : Byt y) (hl : (y.length : Int) ≤ 1000) (last : Bool) (d : Nat) : ∀ x i : Int, 0 ≤ x → x < 65521 → 0 ≤ i → i ≤ y.length → y.length - i = d →
    Evx (fun k => spec_SealOf.l0 k key y last x i) (fun r => r = Fld key x (y.drop i.toNat ++ [if last then 1 else 0]) * key % 65521) := by
  induction d with
  | zero =>
    intro x i x0 x1 i0 i1 hd
    refine Evx.step (fun k => by rw [spec_SealOf.l0]) (Evx.neg (by omega) ?_)
    rw [List.drop_of_length_le (by omega), List.nil_append, go_stp k0 k1 x0 x1 (by omega) (by omega : (1 : Int) ≤ 255), go_stp k0 k1 x0 x1 (by omega) (by omega : (0 : Int) ≤ 255)]
    rw [go_last k0 k1 (stp_rng _ _ _).1 (stp_rng _ _ _).2, go_last k0 k1 (stp_rng _ _ _).1 (stp_rng _ _ _).2]
    cases last
    · exact Evx.neg (by simp) (Evx.now rfl)
    · exact Evx.pos rfl (Evx.now rfl)
  | succ d ih =>
    intro x i x0 x1 i0 i1 hd
    refine Evx.step (fun k => by rw [spec_SealOf.l0]) (Evx.pos (by omega) (Evx.pos i0 ?_))
    have hb := byt_rd hy i
    have e : wrap64 (i + 1) = i + 1 := by unfold wrap64; omega
    rw [w_byte hb, go_stp k0 k1 x0 x1 hb.1 hb.2, e, rd_drop i0 (by omega)]
    exact ih _ _ (stp_rng _ _ _).1 (stp_rng _ _ _).2 (by omega) (by omega) (by omega)
theorem spec_seal_x (key n : Int) {l : List Int} (hl : Byt l) (last : Bool) : Evx (fun k => spec_SealOf.f k key n l last) (fun r => r = SealR key n l last) := by
  unfold spec_SealOf.f
  simp only [spec_in_eq, Option.bind_some]
  have no : ¬ Sok key n l → Evx (fun k => spec_SealOf.j0 k key n l last true) (fun r => r = SealR key n l last) := by
    intro h
    refine Evx.step (fun k => by rw [spec_SealOf.j0]) (Evx.pos rfl (Evx.now ?_))
    unfold SealR; rw [if_neg h]
  refine Evx.ite (fun h => Evx.ite (fun h2 => ?_) (fun h2 => no ?_)) (fun h => no ?_)
  · have h : 1 ≤ key ∧ key ≤ 65520 := by simpa using h
    have h2 : 0 ≤ n ∧ n ≤ 1000 := by simpa using h2
    by_cases h3 : (l.length : Int) > 10
    · rw [decide_eq_true h3]
      exact no (fun q => by have := q.2.2; omega)
    · rw [decide_eq_false h3]
      refine Evx.step (fun k => by rw [spec_SealOf.j0]) (Evx.neg (by simp) ?_)
      have e1 : wrap64 (n + 1) = n + 1 := by unfold wrap64; omega
      rw [e1]
      refine (spec_seal_l h.1 h.2 hl (by omega) last l.length (n + 1) 0 (by omega) (by omega) (by omega) (by omega) (by omega)).mono ?_
      intro r hr
      rw [hr]; unfold SealR Seal; rw [if_pos (show Sok key n l from ⟨h, h2, by omega⟩)]; rfl
  · intro q; exact absurd q.2.1 (by simpa using h2)
  · intro q; exact absurd q.1 (by simpa using h)
theorem seal_rng {key n : Int} {l : List Int} (last : Bool) (h : Sok key n l) : 0 ≤ SealR key n l last ∧ SealR key n l last < 65521 := by
  unfold SealR; rw [if_pos h]; unfold Seal; omega

theorem byt_nil : Byt [] := fun x hx => by cases hx

/-- The two bytes of a seal. -/
def Tail (s : Int) : List Int := [s / 256 % 256, s % 256]
/-- A record as bytes. -/
def RecR (key n : Int) (l : List Int) (last : Bool) : List Int :=
  if Sok key n l then ((l.length : Int) + (if last then 128 else 0)) :: (l ++ Tail (SealR key n l last)) else []
theorem sealr_no {key n : Int} {l : List Int} {last : Bool} (h : ¬ Sok key n l) : SealR key n l last = -1 := by unfold SealR; rw [if_neg h]
theorem impl_tail (s : Int) : Evx (fun k => impl_bytesOf.f k s 2) (fun r => r = Tail s) := by
  unfold impl_bytesOf.f
  refine Evx.pos (by omega) (Evx.pos (by omega) ?_)
  refine Evx.step (fun k => by rw [impl_bytesOf.l0]) (Evx.pos (by unfold wrap64; omega) (Evx.pos (by unfold wrap64; omega) (Evx.pos (by simp [wrap64]) ?_)))
  refine Evx.step (fun k => by rw [impl_bytesOf.l0]) (Evx.pos (by unfold wrap64; omega) (Evx.pos (by unfold wrap64; omega) (Evx.pos (by simp [wrap64]) ?_)))
  refine Evx.step (fun k => by rw [impl_bytesOf.l0]) (Evx.neg (by unfold wrap64; omega) (Evx.now ?_))
  rw [show (wrap64 (2 - 1)).toNat = 1 from by unfold wrap64; omega, show (wrap64 (wrap64 (2 - 1) - 1)).toNat = 0 from by unfold wrap64; omega]
  rfl
theorem spec_tail {s : Int} (s0 : 0 ≤ s) (s1 : s < 65521) : Evx (fun k => spec_BytesOf.f k s 2) (fun r => r = Tail s) := by
  unfold spec_BytesOf.f
  simp only [spec_in_eq, Option.bind_some]
  have a1 : decide (1 ≤ (2 : Int) ∧ (2 : Int) ≤ 4) = true := rfl
  have a2 : wrap64 (8 * 2) = 16 := by unfold wrap64; omega
  have a3 : wrap64 (shl .i64 1 16 - 1) = 65535 := by kernel_rfl
  have a4 : decide (0 ≤ s ∧ s ≤ 65535) = true := decide_eq_true (by omega)
  rw [a1, a2, a3, a4]
  refine Evx.pos rfl (Evx.pos (by omega) ?_)
  refine Evx.step (fun k => by rw [spec_BytesOf.j0]) (Evx.neg (by simp) ?_)
  refine Evx.step (fun k => by rw [spec_BytesOf.l0]) (Evx.pos (by unfold wrap64; omega) (Evx.pos (by unfold wrap64; omega) (Evx.pos (by simp) ?_)))
  refine Evx.step (fun k => by rw [spec_BytesOf.l0]) (Evx.pos (by unfold wrap64; omega) (Evx.pos (by unfold wrap64; omega) (Evx.pos (by simp) ?_)))
  refine Evx.step (fun k => by rw [spec_BytesOf.l0]) (Evx.neg (by unfold wrap64; omega) (Evx.now ?_))
  have b1 : wrap64 (8 * wrap64 (2 - 1)) = 8 := by unfold wrap64; omega
  have b2 : wrap64 (8 * wrap64 (wrap64 (2 - 1) - 1)) = 0 := by unfold wrap64; omega
  have s8 : shr .i64 s 8 = s / 256 := by unfold shr; rw [show (2 : Int) ^ (min (8 : Int).toNat IntKind.i64.bits) = 256 from by kernel_rfl]
  have s0' : shr .i64 s 0 = s := by unfold shr; rw [show (2 : Int) ^ (min (0 : Int).toNat IntKind.i64.bits) = 1 from by kernel_rfl, Int.ediv_one]
  rw [b1, b2, s8, s0', Int.tmod_eq_emod_of_nonneg (by omega), Int.tmod_eq_emod_of_nonneg (by omega)]
  unfold Tail
  simp
theorem recr_len (key n : Int) (l : List Int) (last : Bool) : (RecR key n l last).length ≤ 13 := by
  unfold RecR
  by_cases h : Sok key n l
  · rw [if_pos h]; have := h.2.2; simp [Tail]; omega
  · rw [if_neg h]; simp
theorem byt_tail (s : Int) : Byt (Tail s) := by
  intro x hx
  simp [Tail] at hx
  rcases hx with hx | hx <;> omega
theorem recr_byt {key n : Int} {l : List Int} (hl : Byt l) (last : Bool) : Byt (RecR key n l last) := by
  unfold RecR
  by_cases h : Sok key n l
  · rw [if_pos h]
    have := h.2.2
    intro x hx
    rcases List.mem_cons.1 hx with hx | hx
    · cases last <;> simp at hx <;> omega
    · rcases List.mem_append.1 hx with hx | hx
      · exact hl x hx
      · exact byt_tail _ x hx
  · rw [if_neg h]; exact byt_nil
theorem impl_record_x (key n : Int) {l : List Int} (hl : Byt l) (hn : (l.length : Int) ≤ 100000000) (last : Bool) : Evx (fun k => impl_RecordBytes.f k key n l last) (fun r => r = RecR key n l last) := by
  unfold impl_RecordBytes.f
  refine Evx.bind (impl_seal_x key n hl hn last) fun s hs => ?_
  by_cases h : Sok key n l
  · have h0 := seal_rng last h
    rw [← hs] at h0
    refine Evx.neg (by omega) ?_
    have hbit : impl_bit.f last 128 = some (if last then 128 else 0) := by unfold impl_bit.f; cases last <;> rfl
    rw [hbit]; simp only [Option.bind_some]
    refine Evx.bind (impl_tail s) fun t ht => ?_
    subst ht
    refine Evx.pos (by simp; omega) (Evx.pos (by simp [Tail]; omega) (Evx.now ?_))
    have h3 := h.2.2
    unfold RecR
    rw [if_pos h, ← hs]
    have e : wrap64 ((l.length : Int) + (if last = true then 128 else 0)) % 256 = (l.length : Int) + (if last = true then 128 else 0) := by cases last <;> simp [wrap64] <;> omega
    rw [e]
    simp
  · rw [sealr_no h] at hs
    refine Evx.pos (by omega) (Evx.now ?_)
    unfold RecR; rw [if_neg h]
theorem spec_record_x (key n : Int) {l : List Int} (hl : Byt l) (hn : (l.length : Int) ≤ 100000000) (last : Bool) : Evx (fun k => spec_RecordBytes.f k key n l last) (fun r => r = RecR key n l last) := by
  unfold spec_RecordBytes.f
  refine Evx.bind (spec_seal_x key n hl last) fun s hs => ?_
  by_cases h : Sok key n l
  · have h0 := seal_rng last h
    rw [← hs] at h0
    refine Evx.neg (by omega) ?_
    have h3 := h.2.2
    simp only [Option.bind_some]
    unfold RecR
    rw [if_pos h, ← hs]
    cases last
    · refine Evx.neg (by simp) (Evx.pos (by simp; omega) ?_)
      refine Evx.bind (spec_tail h0.1 h0.2) fun t ht => ?_
      subst ht
      refine Evx.pos (by simp [Tail]; omega) (Evx.now ?_)
      have e : (l.length : Int) % 256 = (l.length : Int) := by omega
      rw [e]; simp
    · refine Evx.pos rfl (Evx.pos (by simp; omega) ?_)
      refine Evx.bind (spec_tail h0.1 h0.2) fun t ht => ?_
      subst ht
      refine Evx.pos (by simp [Tail]; omega) (Evx.now ?_)
      have e : wrap64 ((l.length : Int) + 128) % 256 = (l.length : Int) + 128 := by unfold wrap64; omega
      rw [e]; simp
  · rw [sealr_no h] at hs
    refine Evx.pos (by omega) (Evx.now ?_)
    unfold RecR; rw [if_neg h]

/-- Bytes as a stream of records, from the record n on. -/
def Strm (key : Int) : Nat → Int → List Int → List Int
  | 0, _, _ => []
  | d + 1, n, l => if l.length > 10 then RecR key n (l.take 10) false ++ Strm key d (n + 1) (l.drop 10) else RecR key n l true
theorem byt_take {l : List Int} (h : Byt l) (n : Nat) : Byt (l.take n) := fun x hx => h x (List.mem_of_mem_take hx)
theorem byt_drop {l : List Int} (h : Byt l) (n : Nat) : Byt (l.drop n) := fun x hx => h x (List.mem_of_mem_drop hx)
theorem byt_app {l m : List Int} (h : Byt l) (k : Byt m) : Byt (l ++ m) := fun x hx => (List.mem_append.1 hx).elim (h x) (k x)
theorem strm_len (key : Int) : ∀ (d : Nat) (n : Int) (l : List Int), (Strm key d n l).length ≤ 2 * l.length + 13 := by
  intro d
  induction d with
  | zero => intro n l; simp [Strm]
  | succ d ih =>
    intro n l
    unfold Strm
    by_cases h : l.length > 10
    · rw [if_pos h, List.length_append]
      have h1 := recr_len key n (l.take 10) false
      have h2 := ih (n + 1) (l.drop 10)
      rw [List.length_drop] at h2
      omega
    · rw [if_neg h]; have := recr_len key n l true; omega
theorem strm_byt (key : Int) : ∀ (d : Nat) (n : Int) (l : List Int), Byt l → Byt (Strm key d n l) := by
  intro d
  induction d with
  | zero => intro n l hl; exact byt_nil
  | succ d ih =>
    intro n l hl
    unfold Strm
    by_cases h : l.length > 10
    · rw [if_pos h]; exact byt_app (recr_byt (byt_take hl _) _) (ih _ _ (byt_drop hl _))
    · rw [if_neg h]; exact recr_byt hl _
theorem impl_sealed_l (key : Int) (d : Nat) : ∀ (x out : List Int) (n : Int), x.length < d → Byt x → 0 ≤ n → n + x.length ≤ 1000 → out.length + 2 * x.length ≤ 2000 →
    Evx (fun k => impl_Sealed.l0 k key x out n) (fun r => r = out ++ Strm key d n x) := by
  induction d with
  | zero => intro x out n h; omega
  | succ d ih =>
    intro x out n h hb n0 hn ho
    refine Evx.step (fun k => by rw [impl_Sealed.l0]) ?_
    refine Evx.ite (fun c => Evx.pos (by omega) ?_) (fun c => ?_)
    · have ht : (x.take 10).length = 10 := by rw [List.length_take]; omega
      have hr := recr_len key n (x.take 10) false
      refine Evx.bind (impl_record_x key n (byt_take hb 10) (by omega) false) fun r hr' => ?_
      subst hr'
      have e : wrap64 (n + 1) = n + 1 := by unfold wrap64; omega
      rw [e]
      refine Evx.pos (by omega) ((ih _ _ _ (by rw [List.length_drop]; omega) (byt_drop hb 10) (by omega) (by rw [List.length_drop]; omega) (by rw [List.length_drop, List.length_append]; omega)).mono fun r hr' => ?_)
      rw [hr', Strm, if_pos (by omega), List.append_assoc]
    · have hr := recr_len key n x true
      refine Evx.bind (impl_record_x key n hb (by omega) true) fun r hr' => ?_
      subst hr'
      refine Evx.pos (by omega) (Evx.now ?_)
      rw [Strm, if_neg (by omega)]
/-- What Sealed returns. -/
def SealedR (key : Int) (l : List Int) : List Int := if (1 ≤ key ∧ key ≤ 65520) ∧ l.length ≤ 1000 then Strm key 1001 0 l else []
theorem impl_sealed_x (key : Int) {l : List Int} (hl : Byt l) : Evx (fun k => impl_Sealed.f k key l) (fun r => r = SealedR key l) := by
  have hok : impl_sealOk.f key 0 [] = some (decide (1 ≤ key ∧ key ≤ 65520)) := by
    unfold impl_sealOk.f
    simp only [impl_in_eq, Option.bind_some]
    by_cases h : 1 ≤ key ∧ key ≤ 65520
    · rw [if_pos (by simpa using h)]; simp [h]
    · rw [if_neg (by simpa using h)]; simp [h]
  unfold impl_Sealed.f
  rw [hok]; simp only [Option.bind_some]
  unfold SealedR
  refine Evx.ite (fun h => ?_) (fun h => ?_)
  · have h : 1 ≤ key ∧ key ≤ 65520 := by simpa using h
    refine Evx.step (fun k => by rw [impl_Sealed.j0]) ?_
    refine Evx.ite (fun c => Evx.now ?_) (fun c => ?_)
    · have c : (l.length : Int) > 1000 := by simpa using c
      rw [if_neg (fun q => by omega)]
    · have c : ¬ (l.length : Int) > 1000 := by simpa using c
      rw [if_pos ⟨h, by omega⟩]
      refine (impl_sealed_l key 1001 l [] 0 (by omega) hl (by omega) (by omega) (by simp; omega)).mono fun r hr => ?_
      rw [hr]; rfl
  · have h : ¬ (1 ≤ key ∧ key ≤ 65520) := by simpa using h
    refine Evx.step (fun k => by rw [impl_Sealed.j0]) (Evx.pos rfl (Evx.now ?_))
    rw [if_neg (fun q => h q.1)]
theorem spec_sealed_l (key : Int) {l : List Int} (hb : Byt l) (hl : l.length ≤ 1000) (d : Nat) : ∀ (out : List Int) (n a : Int), (l.length : Int) - a < d → 0 ≤ a → a ≤ l.length → (a = 0 ∨ a < l.length) → 0 ≤ n → n ≤ a → (out.length : Int) ≤ 2 * a →
    Evx (fun k => spec_Sealed.l0 k key l out n a) (fun r => r = out ++ Strm key d n (l.drop a.toNat)) := by
  induction d with
  | zero => intro out n a h; omega
  | succ d ih =>
    intro out n a h a0 a1 hc n0 hn ho
    have e10 : wrap64 (a + 10) = a + 10 := by unfold wrap64; omega
    have en : wrap64 (n + 1) = n + 1 := by unfold wrap64; omega
    have body : Evx (fun k => (if 0 ≤ a then (if a ≤ (mn (wrap64 (a + 10)) (l.length : Int)) then (if (mn (wrap64 (a + 10)) (l.length : Int)) ≤ (l.length : Int) then ((spec_RecordBytes.f k key n ((l.take ((mn (wrap64 (a + 10)) (l.length : Int)) : Int).toNat).drop (a : Int).toNat) ((mn (wrap64 (a + 10)) (l.length : Int)) == (l.length : Int))).bind fun t157 => (if out.length + t157.length < 140737488355328 then (spec_Sealed.l0 k key l (out ++ t157) (wrap64 (n + 1)) (wrap64 (a + 10))) else (none))) else (none)) else (none)) else (none))) (fun r => r = out ++ Strm key (d + 1) n (l.drop a.toNat)) := by
      rw [e10, en]
      have hdl : (l.drop a.toNat).length = l.length - a.toNat := List.length_drop
      by_cases c : (l.drop a.toNat).length > 10
      · have em : mn (a + 10) (l.length : Int) = a + 10 := by unfold mn; exact if_neg (by omega)
        have et : (l.take (a + 10).toNat).drop a.toNat = (l.drop a.toNat).take 10 := by
          rw [List.drop_take]; congr 1; omega
        have eb : ((a + 10) == (l.length : Int)) = false := by simp; omega
        rw [em, et, eb]
        have hr := recr_len key n ((l.drop a.toNat).take 10) false
        refine Evx.pos a0 (Evx.pos (by omega) (Evx.pos (by omega) ?_))
        refine Evx.bind (spec_record_x key n (byt_take (byt_drop hb _) 10) (by rw [List.length_take]; omega) false) fun r hr' => ?_
        subst hr'
        refine Evx.pos (by omega) ((ih _ _ _ (by omega) (by omega) (by omega) (by omega) (by omega) (by omega) (by rw [List.length_append]; omega)).mono fun r hr' => ?_)
        rw [hr', Strm, if_pos c, List.append_assoc, List.drop_drop]
        congr 4; omega
      · have em : mn (a + 10) (l.length : Int) = l.length := by unfold mn; split <;> omega
        have eb : ((l.length : Int) == (l.length : Int)) = true := by simp
        rw [em, eb, Int.toNat_natCast, List.take_length]
        have hr := recr_len key n (l.drop a.toNat) true
        refine Evx.pos a0 (Evx.pos (by omega) (Evx.pos (by omega) ?_))
        refine Evx.bind (spec_record_x key n (byt_drop hb _) (by omega) true) fun r hr' => ?_
        subst hr'
        refine Evx.pos (by omega) ?_
        refine Evx.step (fun k => by rw [spec_Sealed.l0]) (Evx.neg (by omega) (Evx.neg (by omega) (Evx.now ?_)))
        rw [Strm, if_neg c]
    refine Evx.step (fun k => by rw [spec_Sealed.l0]) ?_
    exact Evx.ite (fun _ => body) (fun c => Evx.pos (by omega) body)
theorem spec_sealed_x (key : Int) {l : List Int} (hl : Byt l) : Evx (fun k => spec_Sealed.f k key l) (fun r => r = SealedR key l) := by
  unfold spec_Sealed.f
  simp only [spec_in_eq, Option.bind_some]
  unfold SealedR
  refine Evx.ite (fun h => ?_) (fun h => ?_)
  · have h : 1 ≤ key ∧ key ≤ 65520 := by simpa using h
    refine Evx.step (fun k => by rw [spec_Sealed.j0]) ?_
    refine Evx.ite (fun c => Evx.now ?_) (fun c => ?_)
    · have c : (l.length : Int) > 1000 := by simpa using c
      rw [if_neg (fun q => by omega)]
    · have c : ¬ (l.length : Int) > 1000 := by simpa using c
      rw [if_pos ⟨h, by omega⟩]
      refine (spec_sealed_l key hl (by omega) 1001 [] 0 0 (by omega) (by omega) (by omega) (by omega) (by omega) (by omega) (by simp)).mono fun r hr => ?_
      rw [hr]; rfl
  · have h : ¬ (1 ≤ key ∧ key ≤ 65520) := by simpa using h
    refine Evx.step (fun k => by rw [spec_Sealed.j0]) (Evx.pos rfl (Evx.now ?_))
    rw [if_neg (fun q => h q.1)]
theorem sealedr_len (key : Int) (l : List Int) : (SealedR key l).length ≤ 2013 := by
  unfold SealedR
  by_cases h : (1 ≤ key ∧ key ≤ 65520) ∧ l.length ≤ 1000
  · rw [if_pos h]; have := strm_len key 1001 0 l; omega
  · rw [if_neg h]; simp

theorem rd_set {l : List Int} {i j v : Int} (i0 : 0 ≤ i) (i1 : i < l.length) (j0 : 0 ≤ j) : rd (l.set i.toNat v) j = if i = j then v else rd l j := by
  have hi : i.toNat < l.length := by omega
  unfold rd
  rw [List.getD_eq_getElem?_getD, List.getD_eq_getElem?_getD, List.getElem?_set]
  by_cases h : i = j
  · subst h; rw [if_pos rfl, if_pos hi, if_pos rfl]; rfl
  · rw [if_neg (by omega), if_neg h]
/-- Every element is the next number. -/
def Mkd (a : Int) (l : List Int) : Prop := ∀ j : Int, 0 ≤ j → j < l.length → rd l j = (a + j) % 256
theorem mark_l {n : Nat} (hn : (n : Int) ≤ 100000000) {a : Int} (a0 : 0 ≤ a) (a1 : a ≤ 100000000) (d : Nat) : ∀ (x : List Int) (i : Int), x.length = n → 0 ≤ i → i ≤ n → n - i = d → (∀ j : Int, 0 ≤ j → j < i → rd x j = (a + j) % 256) →
    Evx (fun k => laws_markByteS.l0 k x (a + i) i) (fun r => r.1 = a + n ∧ r.2.length = n ∧ Mkd a r.2) := by
  induction d with
  | zero =>
    intro x i hx i0 hi hd H
    have e : i = n := by omega
    refine Evx.step (fun k => by rw [laws_markByteS.l0]) (Evx.neg (by omega) (Evx.now ⟨by omega, hx, fun j j0 j1 => H j j0 (by have : j < x.length := j1; omega)⟩))
  | succ d ih =>
    intro x i hx i0 hi hd H
    refine Evx.step (fun k => by rw [laws_markByteS.l0]) (Evx.pos (by omega) (Evx.pos i0 ?_))
    have e1 : wrap64 (i + 1) = i + 1 := by unfold wrap64; omega
    have e2 : wrap64 (a + i + 1) = a + (i + 1) := by unfold wrap64; omega
    rw [e1, e2]
    refine ih _ _ (by simp [hx]) (by omega) (by omega) (by omega) fun j j0 j1 => ?_
    rw [rd_set i0 (by omega) j0]
    by_cases h : i = j
    · rw [if_pos h, h]
    · rw [if_neg h]; exact H j j0 (by omega)
theorem mark_x {l : List Int} (hl : (l.length : Int) ≤ 100000000) {a : Int} (a0 : 0 ≤ a) (a1 : a ≤ 100000000) :
    Evx (fun k => laws_markByteS.f k l a) (fun r => r.1 = a + l.length ∧ r.2.length = l.length ∧ Mkd a r.2) := by
  unfold laws_markByteS.f
  have := mark_l hl a0 a1 l.length l 0 rfl (by omega) (by omega) (by omega) (fun j j0 j1 => by omega)
  simpa using this
theorem held_l {l : List Int} (hl : (l.length : Int) ≤ 100000000) {a : Int} (a0 : 0 ≤ a) (a1 : a ≤ 100000000) (H : Mkd a l) (d : Nat) : ∀ (i : Int), 0 ≤ i → i ≤ l.length → l.length - i = d →
    Evx (fun k => laws_heldByteS.l0 k l (a + i) i) (fun r => r = a + l.length) := by
  induction d with
  | zero =>
    intro i i0 hi hd
    refine Evx.step (fun k => by rw [laws_heldByteS.l0]) (Evx.neg (by omega) (Evx.now (by omega)))
  | succ d ih =>
    intro i i0 hi hd
    refine Evx.step (fun k => by rw [laws_heldByteS.l0]) (Evx.pos (by omega) (Evx.pos i0 (Evx.pos (H i i0 (by omega)) ?_)))
    have e1 : wrap64 (i + 1) = i + 1 := by unfold wrap64; omega
    have e2 : wrap64 (a + i + 1) = a + (i + 1) := by unfold wrap64; omega
    rw [e1, e2]
    exact ih _ (by omega) (by omega) (by omega)
theorem held_x {l : List Int} (hl : (l.length : Int) ≤ 100000000) {a : Int} (a0 : 0 ≤ a) (a1 : a ≤ 100000000) (H : Mkd a l) :
    Evx (fun k => laws_heldByteS.f k l a) (fun r => r = a + l.length) := by
  unfold laws_heldByteS.f
  have := held_l hl a0 a1 H l.length 0 (by omega) (by omega) (by omega)
  simpa using this

theorem toB_l {l : List Int} (hl : (l.length : Int) ≤ 100000000) (d : Nat) : ∀ i : Nat, i ≤ l.length → l.length - i = d →
    Evx (fun k => laws_toByteS.l0 k l (l.take i ++ List.replicate (l.length - i) 0) (i : Int)) (fun r => r = l) := by
  induction d with
  | zero =>
    intro i hi hd
    have : i = l.length := by omega
    subst this
    refine Evx.step (fun k => by rw [laws_toByteS.l0]) (Evx.neg (by omega) (Evx.now ?_))
    simp
  | succ d ih =>
    intro i hi hd
    refine Evx.step (fun k => by rw [laws_toByteS.l0]) (Evx.pos (by omega) (Evx.pos (by omega) (Evx.pos (by simp; omega) ?_)))
    have e : wrap64 ((i : Int) + 1) = ((i + 1 : Nat) : Int) := by unfold wrap64; omega
    have hil : i < l.length := by omega
    have s : (l.take i ++ List.replicate (l.length - i) 0).set ((i : Int)).toNat (rd l (i : Int)) = l.take (i + 1) ++ List.replicate (l.length - (i + 1)) 0 := by
      unfold rd
      rw [Int.toNat_natCast, List.getD_eq_getElem?_getD, List.getElem?_eq_getElem hil]
      apply List.ext_getElem?
      intro j
      rw [List.getElem?_set]
      by_cases hj : i = j
      · subst hj
        rw [if_pos rfl, if_pos (by simp; omega), List.getElem?_append_left (by simp; omega), List.getElem?_take, if_pos (by omega), List.getElem?_eq_getElem hil]
        rfl
      · rw [if_neg hj]
        rcases Nat.lt_or_ge j i with h | h
        · rw [List.getElem?_append_left (by simp; omega), List.getElem?_append_left (by simp; omega), List.getElem?_take, List.getElem?_take, if_pos h, if_pos (by omega)]
        · rw [List.getElem?_append_right (by simp; omega), List.getElem?_append_right (by simp; omega)]
          simp only [List.length_take, List.getElem?_replicate]
          have e1 : min i l.length = i := by omega
          have e2 : min (i + 1) l.length = i + 1 := by omega
          rw [e1, e2]
          by_cases hlt : j < l.length
          · rw [if_pos (by omega), if_pos (by omega)]
          · rw [if_neg (by omega), if_neg (by omega)]
    rw [e, s]
    exact ih (i + 1) (by omega) (by omega)
theorem toB_x {l : List Int} (hl : (l.length : Int) ≤ 100000000) : Evx (fun k => laws_toByteS.f k l) (fun r => r = l) := by
  unfold laws_toByteS.f
  refine Evx.pos (by omega) (Evx.pos (by omega) ?_)
  have := toB_l hl l.length 0 (by omega) (by omega)
  simpa using this

theorem eqB_l {l : List Int} (hl : (l.length : Int) ≤ 100000000) (d : Nat) : ∀ i : Int, 0 ≤ i → i ≤ l.length → l.length - i = d →
    Evx (fun k => laws_eqByteS.l0 k l l i) (fun r => r = true) := by
  induction d with
  | zero =>
    intro i i0 hi hd
    exact Evx.step (fun k => by rw [laws_eqByteS.l0]) (Evx.neg (by omega) (Evx.now rfl))
  | succ d ih =>
    intro i i0 hi hd
    refine Evx.step (fun k => by rw [laws_eqByteS.l0]) (Evx.pos (by omega) (Evx.pos i0 (Evx.pos (by omega) (Evx.pos rfl ?_))))
    have e : wrap64 (i + 1) = i + 1 := by unfold wrap64; omega
    rw [e]
    exact ih _ (by omega) (by omega) (by omega)
theorem eqB_x {l : List Int} (hl : (l.length : Int) ≤ 100000000) : Evx (fun k => laws_eqByteS.f k l l) (fun r => r = true) := by
  unfold laws_eqByteS.f
  exact Evx.pos rfl (eqB_l hl l.length 0 (by omega) (by omega) (by omega))

theorem FnExactSealed : laws_FnExactSealed.Pure := by
  intro key l _ hm hn hw
  have hb := byt_wf hw
  refine Evx.law (g := fun k => laws_FnExactSealed.f k key l) ?_
  unfold laws_FnExactSealed.f
  refine Evx.ite (fun _ => Evx.now rfl) (fun hlen => ?_)
  have hl : (l.length : Int) ≤ 100000000 := by omega
  have hr : ((SealedR key l).length : Int) ≤ 2013 := by have := sealedr_len key l; omega
  refine Evx.bind (toB_x hl) fun r1 e1 => ?_
  subst e1
  refine Evx.bind (spec_sealed_x key hb) fun r2 e2 => ?_
  subst e2
  refine Evx.bind (toB_x hl) fun r3 e3 => ?_
  subst e3
  refine Evx.bind (impl_sealed_x key hb) fun r4 e4 => ?_
  subst e4
  refine Evx.bind (eqB_x (by omega)) fun r6 e6 => Evx.pos e6 ?_
  refine Evx.bind (toB_x hl) fun r5 e5 => ?_
  subst e5
  refine Evx.bind (eqB_x hl) fun r7 e7 => Evx.pos e7 ?_
  refine Evx.bind (mark_x hl (by omega) (by omega)) fun b1 eb1 => ?_
  refine Evx.neg (by omega) ?_
  refine Evx.bind (eqB_x (by omega)) fun r8 e8 => ?_
  rw [e8]
  refine Evx.step (fun k => by rw [laws_FnExactSealed.j0]) (Evx.neg (by simp) ?_)
  refine Evx.bind (mark_x (by omega) (by omega) (by omega)) fun b2 eb2 => ?_
  refine Evx.bind (held_x (by omega) (by omega) (by omega) eb2.2.2) fun q1 eq1 => ?_
  refine Evx.neg (by omega) (Evx.pos (by omega) ?_)
  refine Evx.bind (toB_x hl) fun r9 e9 => ?_
  subst e9
  refine Evx.bind (impl_sealed_x key hb) fun r10 e10 => ?_
  subst e10
  refine Evx.bind (eqB_x (by omega)) fun r11 e11 => Evx.pos e11 ?_
  refine Evx.bind (held_x (by omega) (by omega) (by omega) eb2.2.2) fun q2 eq2 => ?_
  exact Evx.neg (by omega) (Evx.pos (by omega) (Evx.now rfl))

end Go.Proofs.Ytgabediginlabaa.Pure
