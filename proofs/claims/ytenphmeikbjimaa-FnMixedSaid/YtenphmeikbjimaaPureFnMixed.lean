/- What the functions come to that FnMixed calls, and what is opened of records in each other's place; there is no condition beyond those each statement names. -/
import Derived.Test.YtenphmeikbjimaaGFnMixedx0
import Derived.Test.YtenphmeikbjimaaGFnMixedx1
import Derived.Test.YtenphmeikbjimaaGFnMixedx2
import Derived.Test.YtenphmeikbjimaaGFnMixedx3
import Derived.Test.YtenphmeikbjimaaGFnMixedx4
import Derived.Test.YtenphmeikbjimaaGFnMixedx5
set_option linter.unusedVariables false
set_option linter.unusedSimpArgs false
set_option maxRecDepth 100000
namespace Go.Proofs.Ytenphmeikbjimaa.Pure
open Go.RowKit Go.Proofs.Ytenphmeikbjimaa.GFnMixed Go.Proofs.YtenphmeikbjimaaVMixed.PrintWords Go.Proofs.YtenphmeikbjimaaVMixed.PrintLast Go.Proofs.YtenphmeikbjimaaVMixed.PrintMore

theorem w64 {x : Int} (h0 : -9223372036854775808 ≤ x) (h1 : x ≤ 9223372036854775807) : wrap64 x = x := by unfold wrap64; omega

/-- It comes to an answer of which P holds. -/
def Evx {α : Type} (g : Nat → Option α) (P : α → Prop) : Prop := ∃ r, Ev g r ∧ P r
theorem Evx.bind {α β : Type} {g : Nat → Option α} {f : Nat → α → Option β} {P : α → Prop} {Q : β → Prop} (h : Evx g P) (k : ∀ a, P a → Evx (fun n => f n a) Q) : Evx (fun n => (g n).bind (f n)) Q := by
  obtain ⟨a, ha, pa⟩ := h
  obtain ⟨r, hr, qr⟩ := k a pa
  exact ⟨r, Ev.bind ha hr, qr⟩
theorem Evx.now {α : Type} {P : α → Prop} {r : α} (h : P r) : Evx (fun _ => some r) P := ⟨r, Ev.now r, h⟩
theorem Evx.pos {α : Type} {c : Prop} [Decidable c] {f g : Nat → Option α} {P : α → Prop} (hc : c) (h : Evx f P) : Evx (fun n => if c then f n else g n) P := by
  simp only [if_pos hc]; exact h
theorem Evx.neg {α : Type} {c : Prop} [Decidable c] {f g : Nat → Option α} {P : α → Prop} (hc : ¬ c) (h : Evx g P) : Evx (fun n => if c then f n else g n) P := by
  simp only [if_neg hc]; exact h
theorem Evx.ite {α : Type} {c : Prop} [Decidable c] {f g : Nat → Option α} {P : α → Prop} (h : c → Evx f P) (k : ¬ c → Evx g P) : Evx (fun n => if c then f n else g n) P := by
  by_cases hc : c
  · exact Evx.pos hc (h hc)
  · exact Evx.neg hc (k hc)
theorem Evx.step {α : Type} {g f : Nat → Option α} {P : α → Prop} (h : ∀ k, g (k + 1) = f k) (k : Evx f P) : Evx g P := by
  obtain ⟨r, hr, p⟩ := k
  exact ⟨r, Ev.step h hr, p⟩
theorem Evx.mono {α : Type} {g : Nat → Option α} {P Q : α → Prop} (h : Evx g P) (k : ∀ r, P r → Q r) : Evx g Q := by
  obtain ⟨r, hr, p⟩ := h
  exact ⟨r, hr, k r p⟩
theorem Evx.law {g : Nat → Option Bool} (h : Evx g (fun r => r = true)) : ∃ k, g k = some true := by
  obtain ⟨r, hr, rfl⟩ := h
  exact hr.rounds
theorem Evx.of {α : Type} {g : Nat → Option α} {r : α} {P : α → Prop} (hg : ∀ k, LeO (g k) (g (k + 1))) {k : Nat} (h : g k = some r) (p : P r) : Evx g P := ⟨r, Ev.of hg h, p⟩

/-- All are bytes. -/
def Byt (l : List Int) : Prop := ∀ x ∈ l, 0 ≤ x ∧ x ≤ 255
theorem byt_wf {l : List Int} (h : ∀ x ∈ l, (Lit.int .u8 x).wf = true) : Byt l := by
  intro x hx
  have := h x hx
  simp [Lit.wf, IntKind.min, IntKind.max, IntKind.signed, IntKind.bits] at this
  omega
theorem byt_rd {l : List Int} (h : Byt l) (i : Int) : 0 ≤ rd l i ∧ rd l i ≤ 255 := by
  unfold rd
  by_cases hi : i.toNat < l.length
  · rw [List.getD_eq_getElem?_getD, List.getElem?_eq_getElem hi]; exact h _ (List.getElem_mem hi)
  · rw [List.getD_eq_getElem?_getD, List.getElem?_eq_none (by omega)]; simp
theorem xor_nn {x y : Int} (hx : 0 ≤ x) (hx1 : x < 4611686018427387904) (hy : 0 ≤ y) (hy1 : y < 4611686018427387904) : 0 ≤ Go.bits .xor .i64 x y := by
  obtain ⟨a, rfl⟩ := Int.eq_ofNat_of_zero_le hx
  obtain ⟨b, rfl⟩ := Int.eq_ofNat_of_zero_le hy
  have ha : a < 2 ^ 62 := by omega
  have hb : b < 2 ^ 62 := by omega
  have hc := Nat.xor_lt_two_pow ha hb
  unfold Go.bits
  simp only [BitVec.ofInt_natCast, BitVec.toNat_xor, BitVec.toNat_ofNat]
  rw [IntKind.wrap_i64]
  have e : IntKind.i64.bits = 64 := rfl
  rw [e, Nat.mod_eq_of_lt (by omega), Nat.mod_eq_of_lt (by omega)]
  omega

/-- What a draw of a number below a tells. -/
def Pk (n a : Int) (r : Int × Int) : Prop := r.2 = n + 1 ∧ 0 ≤ r.1 ∧ (1 ≤ a → r.1 < a) ∧ (a < 1 → r.1 = 0)
theorem tmod_rng {x a : Int} (hx : 0 ≤ x) (ha : 1 ≤ a) : 0 ≤ Int.tmod x a ∧ Int.tmod x a < a := by
  rw [Int.tmod_eq_emod_of_nonneg hx]
  exact ⟨Int.emod_nonneg _ (by omega), Int.emod_lt_of_pos _ (by omega)⟩
theorem pick_j {s : List Int} (hs : Byt s) {n a : Int} (h0 : 0 ≤ n) (h1 : n ≤ 1000000000) (ha : 1 ≤ a) (hl : 1 ≤ (s.length : Int)) (hm : (s.length : Int) ≤ 1000000000) :
    Evx (fun k => spec_l20Rd_pick.j0 k a false s (n + 1)) (Pk n a) := by
  refine Evx.step (fun k => by rw [spec_l20Rd_pick.j0]) ?_
  have e1 : wrap64 (n + 1 - 1) = n := by unfold wrap64; omega
  have e2 : wrap64 (n * 7) = n * 7 := by unfold wrap64; omega
  have e3 : wrap64 (n * 7 + 3) = n * 7 + 3 := by unfold wrap64; omega
  have e4 : wrap64 (n * 29) = n * 29 := by unfold wrap64; omega
  simp only [e1, e2, e3, e4]
  refine Evx.neg (by simp) ?_
  refine Evx.ite (fun hlt => ?_) (fun hge => ?_)
  · refine Evx.pos h0 (Evx.neg (by omega) (Evx.now ?_))
    have hb := byt_rd hs n
    have e5 : wrap64 (rd s n) = rd s n := by unfold wrap64; omega
    rw [e5]
    have := tmod_rng hb.1 ha
    exact ⟨rfl, this.1, fun _ => this.2, fun h => by omega⟩
  · refine Evx.neg (by omega) ?_
    have r1 := tmod_rng h0 hl
    have r2 := tmod_rng (x := n * 7 + 3) (by omega) hl
    refine Evx.pos r1.1 (Evx.pos r1.2 (Evx.pos r2.1 (Evx.pos r2.2 (Evx.neg (by omega) (Evx.now ?_)))))
    have b1 := byt_rd hs (Int.tmod n s.length)
    have b2 := byt_rd hs (Int.tmod (n * 7 + 3) s.length)
    generalize rd s (Int.tmod n s.length) = x at b1 ⊢
    generalize rd s (Int.tmod (n * 7 + 3) s.length) = y at b2 ⊢
    have q0 : 0 ≤ Int.tdiv n s.length := Int.tdiv_nonneg h0 (by omega)
    have q1 : Int.tdiv n s.length ≤ n := by
      rw [Int.tdiv_eq_ediv_of_nonneg h0]; exact Int.ediv_le_self _ h0
    generalize Int.tdiv n s.length = q at q0 q1 ⊢
    have f1 : wrap64 x = x := by unfold wrap64; omega
    have f2 : wrap64 y = y := by unfold wrap64; omega
    have f3 : wrap64 (x * 131) = x * 131 := by unfold wrap64; omega
    have f4 : wrap64 (y * 1117) = y * 1117 := by unfold wrap64; omega
    have f5 : wrap64 (x * 131 + y * 1117) = x * 131 + y * 1117 := by unfold wrap64; omega
    have f6 : wrap64 (x * 131 + y * 1117 + n * 29) = x * 131 + y * 1117 + n * 29 := by unfold wrap64; omega
    have f7 : wrap64 q = q := by unfold wrap64; omega
    have f8 : wrap64 (q * 53) = q * 53 := by unfold wrap64; omega
    have f9 : wrap64 (x * 131 + y * 1117 + n * 29 + q * 53) = x * 131 + y * 1117 + n * 29 + q * 53 := by unfold wrap64; omega
    simp only [f1, f2, f3, f4, f5, f6, f7, f8, f9]
    have z0 : 0 ≤ x * 131 + y * 1117 + n * 29 + q * 53 := by omega
    have z1 : x * 131 + y * 1117 + n * 29 + q * 53 < 1000000000000 := by omega
    generalize x * 131 + y * 1117 + n * 29 + q * 53 = z at z0 z1 ⊢
    have f10 : wrap64 (Int.tdiv z 64) = z / 64 := by
      rw [Int.tdiv_eq_ediv_of_nonneg z0]; unfold wrap64; omega
    rw [f10]
    have := tmod_rng (xor_nn (x := z) (y := z / 64) z0 (by omega) (by omega) (by omega)) ha
    exact ⟨rfl, this.1, fun _ => this.2, fun h => by omega⟩
theorem pick_x {s : List Int} (hs : Byt s) (hm : (s.length : Int) ≤ 1000000000) (n a : Int) (h0 : 0 ≤ n) (h1 : n ≤ 1000000000) :
    Evx (fun k => spec_l20Rd_pick.f k s n a) (Pk n a) := by
  unfold spec_l20Rd_pick.f
  have e0 : wrap64 (n + 1) = n + 1 := by unfold wrap64; omega
  rw [e0]
  refine Evx.ite (fun ha => ?_) (fun ha => ?_)
  · refine Evx.step (fun k => by rw [spec_l20Rd_pick.j0]) (Evx.pos rfl (Evx.now ?_))
    exact ⟨rfl, Int.le_refl _, fun h => by omega, fun _ => rfl⟩
  · by_cases hl : (s.length : Int) = 0
    · have e : ((s.length : Int) == 0) = true := beq_iff_eq.mpr hl
      rw [e]
      refine Evx.step (fun k => by rw [spec_l20Rd_pick.j0]) (Evx.pos rfl (Evx.now ?_))
      exact ⟨rfl, Int.le_refl _, fun h => by omega, fun _ => rfl⟩
    · have e : ((s.length : Int) == 0) = false := beq_eq_false_iff_ne.mpr hl
      rw [e]
      exact pick_j hs h0 h1 (by omega) (by omega) hm
/-- What the reader that is opened is. -/
def Opn (r : List Int × Int) : Prop := Byt r.1 ∧ (r.1.length : Int) ≤ 2000 ∧ r.2 = 0
theorem open_x {l : List Int} (hl : Byt l) : ∃ r, spec_l20Open.f l = some r ∧ Opn r := by
  unfold spec_l20Open.f
  by_cases h : (l.length : Int) > 2000
  · rw [if_pos h, if_pos (by omega)]
    exact ⟨_, rfl, fun x hx => hl x (List.mem_of_mem_take hx), by simp only [List.length_take]; omega, rfl⟩
  · rw [if_neg h]
    exact ⟨_, rfl, hl, by simp only []; omega, rfl⟩

theorem alive_x : Evx (fun k => laws_alive.f k) (fun r => r = true) := Evx.of laws_alive.mono (k := 10) (r := true) (by decide +kernel) rfl

theorem impl_in_eq (a b c : Int) : impl_in.f a b c = some (decide (b ≤ a ∧ a ≤ c)) := by
  unfold impl_in.f
  by_cases h : b ≤ a
  · rw [if_pos h]; simp [h]
  · rw [if_neg (by omega)]; simp [h]
theorem spec_in_eq (a b c : Int) : spec_l1In.f a b c = some (decide (b ≤ a ∧ a ≤ c)) := by
  unfold spec_l1In.f
  by_cases h : b ≤ a
  · rw [if_pos h]; simp [h]
  · rw [if_neg (by omega)]; simp [h]

theorem byt_snoc {l : List Int} {x : Int} (h : Byt l) (h0 : 0 ≤ x) (h1 : x ≤ 255) : Byt (l ++ [x]) := by
  intro y hy
  rcases List.mem_append.1 hy with hy | hy
  · exact h y hy
  · rw [List.mem_singleton] at hy; omega
theorem byt_nil : Byt [] := fun x hx => by cases hx
theorem bytes_l {s : List Int} (hs : Byt s) (hm : (s.length : Int) ≤ 1000000000) (d : Nat) : ∀ (c p : Int) (o : List Int), 0 ≤ c → c = d → 0 ≤ p → p ≤ 10000000 - 2 * c → Byt o → (o.length : Int) + c ≤ 100000 →
    Evx (fun k => spec_l20Rd_bytes.l0 k c o s p) (fun r => Byt r.1 ∧ (r.1.length : Int) = o.length + c ∧ p ≤ r.2 ∧ r.2 ≤ p + 2 * c) := by
  induction d with
  | zero =>
    intro c p o c0 hd p0 p1 ho hl
    exact Evx.step (fun k => by rw [spec_l20Rd_bytes.l0]) (Evx.neg (by omega) (Evx.now ⟨ho, by simp only []; omega, by simp only []; omega, by simp only []; omega⟩))
  | succ d ih =>
    intro c p o c0 hd p0 p1 ho hl
    refine Evx.step (fun k => by rw [spec_l20Rd_bytes.l0]) (Evx.pos (by omega) ?_)
    have e1 : wrap64 (c - 1) = c - 1 := by unfold wrap64; omega
    rw [e1]
    have next : ∀ x q : Int, 0 ≤ x → x ≤ 255 → p ≤ q → q ≤ p + 2 → Evx (fun k => spec_l20Rd_bytes.l0 k (c - 1) (o ++ [x]) s q) (fun r => Byt r.1 ∧ (r.1.length : Int) = o.length + c ∧ p ≤ r.2 ∧ r.2 ≤ p + 2 * c) := by
      intro x q x0 x1 q0 q1
      refine (ih (c - 1) q (o ++ [x]) (by omega) (by omega) (by omega) (by omega) (byt_snoc ho x0 x1) (by simp; omega)).mono ?_
      rintro r ⟨r1, r2, r3, r4⟩
      refine ⟨r1, ?_, by omega, by omega⟩
      rw [r2]; simp; omega
    refine Evx.bind (pick_x hs hm _ _ (by omega) (by omega)) fun r1 q1 => ?_
    obtain ⟨e2, a2, b2, _⟩ := q1
    refine Evx.ite (fun _ => ?_) (fun _ => ?_)
    · refine Evx.bind (pick_x hs hm _ _ (by omega) (by omega)) fun r3 q3 => ?_
      obtain ⟨e3, a3, b3, _⟩ := q3
      exact Evx.pos (by omega) (next _ _ (by omega) (by omega) (by omega) (by omega))
    · refine Evx.bind (pick_x hs hm _ _ (by omega) (by omega)) fun r3 q3 => ?_
      obtain ⟨e3, a3, b3, _⟩ := q3
      exact Evx.pos (by omega) (next _ _ (by omega) (by omega) (by omega) (by omega))
theorem bytes_x {s : List Int} (hs : Byt s) (hm : (s.length : Int) ≤ 1000000000) (n a : Int) (h0 : 0 ≤ n) (h1 : n ≤ 1000000) (a0 : 0 ≤ a) (a1 : a ≤ 1000) :
    Evx (fun k => spec_l20Rd_bytes.f k s n a) (fun r => Byt r.1 ∧ (r.1.length : Int) = a ∧ n ≤ r.2 ∧ r.2 ≤ n + 2 * a) := by
  unfold spec_l20Rd_bytes.f
  exact (bytes_l hs hm a.toNat a n [] a0 (by omega) h0 (by omega) byt_nil (by simp; omega)).mono fun r hr => ⟨hr.1, by have := hr.2.1; simpa using this, hr.2.2⟩

/-- One byte more goes into a seal. -/
def Stp (key x b : Int) : Int := (x * key + b + 1) % 65521
def Fld (key x : Int) (l : List Int) : Int := l.foldl (Stp key) x
/-- The seal of bytes. -/
def Seal (key n : Int) (l : List Int) (last : Bool) : Int := Fld key (n + 1) (l ++ [if last then 1 else 0]) * key % 65521
/-- What can be sealed. -/
def Sok (key n : Int) (l : List Int) : Prop := (1 ≤ key ∧ key ≤ 65520) ∧ (0 ≤ n ∧ n ≤ 1000) ∧ l.length ≤ 10
instance (key n : Int) (l : List Int) : Decidable (Sok key n l) := by unfold Sok; infer_instance
def SealR (key n : Int) (l : List Int) (last : Bool) : Int := if Sok key n l then Seal key n l last else -1
theorem stp_rng (key x b : Int) : 0 ≤ Stp key x b ∧ Stp key x b < 65521 := by unfold Stp; omega
theorem mul_rng {key x : Int} (k0 : 1 ≤ key) (k1 : key ≤ 65520) (x0 : 0 ≤ x) (x1 : x < 65521) : 0 ≤ x * key ∧ x * key ≤ 4292870400 := by
  refine ⟨Int.mul_nonneg x0 (by omega), ?_⟩
  have := Int.mul_le_mul (show x ≤ 65520 by omega) k1 (by omega) (by omega)
  omega
theorem go_stp {key x b : Int} (k0 : 1 ≤ key) (k1 : key ≤ 65520) (x0 : 0 ≤ x) (x1 : x < 65521) (b0 : 0 ≤ b) (b1 : b ≤ 255) :
    Int.tmod (wrap64 ((wrap64 ((wrap64 (x * key)) + b)) + 1)) 65521 = Stp key x b := by
  have := mul_rng k0 k1 x0 x1
  unfold Stp
  generalize x * key = z at this ⊢
  have e1 : wrap64 z = z := by unfold wrap64; omega
  have e2 : wrap64 (z + b) = z + b := by unfold wrap64; omega
  have e3 : wrap64 (z + b + 1) = z + b + 1 := by unfold wrap64; omega
  rw [e1, e2, e3, Int.tmod_eq_emod_of_nonneg (by omega)]
theorem go_last {key x : Int} (k0 : 1 ≤ key) (k1 : key ≤ 65520) (x0 : 0 ≤ x) (x1 : x < 65521) : Int.tmod (wrap64 (x * key)) 65521 = x * key % 65521 := by
  have := mul_rng k0 k1 x0 x1
  generalize x * key = z at this ⊢
  have e1 : wrap64 z = z := by unfold wrap64; omega
  rw [e1, Int.tmod_eq_emod_of_nonneg (by omega)]
theorem fld_rng {key : Int} (l : List Int) : ∀ {x : Int}, 0 ≤ x → x < 65521 → 0 ≤ Fld key x l ∧ Fld key x l < 65521 := by
  induction l with
  | nil => intro x h0 h1; exact ⟨h0, h1⟩
  | cons b l ih => intro x h0 h1; exact ih (stp_rng key x b).1 (stp_rng key x b).2
theorem rd_drop {l : List Int} {i : Int} (h0 : 0 ≤ i) (h1 : i < l.length) : l.drop i.toNat = rd l i :: l.drop (i + 1).toNat := by
  have hi : i.toNat < l.length := by omega
  rw [List.drop_eq_getElem_cons hi]
  unfold rd
  rw [List.getD_eq_getElem?_getD, List.getElem?_eq_getElem hi]
  have : (i + 1).toNat = i.toNat + 1 := by omega
  rw [this]; rfl
theorem w_byte {b : Int} (h : 0 ≤ b ∧ b ≤ 255) : wrap64 b = b := by unfold wrap64; omega
theorem impl_seal_l {key : Int} (k0 : 1 ≤ key) (k1 : key ≤ 65520) {y : List Int} (hy : Byt y) (hl : (y.length : Int) ≤ 1000) (d : Nat) : ∀ x i : Int, 0 ≤ x → x < 65521 → 0 ≤ i → i ≤ y.length → y.length - i = d →
    Evx (fun k => impl_SealOf.l0 k key x y (y.length : Int) i) (fun r => r = Fld key x (y.drop i.toNat) * key % 65521) := by
  induction d with
  | zero =>
    intro x i x0 x1 i0 i1 hd
    refine Evx.step (fun k => by rw [impl_SealOf.l0]) (Evx.neg (by omega) (Evx.now ?_))
    rw [go_last k0 k1 x0 x1, List.drop_of_length_le (by omega)]; rfl
  | succ d ih =>
    intro x i x0 x1 i0 i1 hd
    refine Evx.step (fun k => by rw [impl_SealOf.l0]) (Evx.pos (by omega) (Evx.pos i0 (Evx.pos (by omega) ?_)))
    have hb := byt_rd hy i
    have e : wrap64 (i + 1) = i + 1 := by unfold wrap64; omega
    rw [w_byte hb, go_stp k0 k1 x0 x1 hb.1 hb.2, e, rd_drop i0 (by omega)]
    exact ih _ _ (stp_rng _ _ _).1 (stp_rng _ _ _).2 (by omega) (by omega) (by omega)
theorem impl_seal_x (key n : Int) {l : List Int} (hl : Byt l) (hn : (l.length : Int) ≤ 100000000) (last : Bool) : Evx (fun k => impl_SealOf.f k key n l last) (fun r => r = SealR key n l last) := by
  have hok : impl_sealOk.f key n l = some (decide (Sok key n l)) := by
    unfold impl_sealOk.f
    simp only [impl_in_eq, Option.bind_some]
    by_cases h : 1 ≤ key ∧ key ≤ 65520
    · rw [if_pos (by simpa using h)]
      by_cases h2 : 0 ≤ n ∧ n ≤ 1000
      · rw [if_pos (by simpa using h2)]
        have e : ((l.length : Int) ≤ 10) ↔ l.length ≤ 10 := by omega
        simp [Sok, h, h2, e]
      · rw [if_neg (by simpa using h2)]; simp [Sok, h, h2]
    · rw [if_neg (by simpa using h)]; simp [Sok, h]
  have hbit : impl_bit.f last 1 = some (if last then 1 else 0) := by
    unfold impl_bit.f; cases last <;> rfl
  unfold impl_SealOf.f
  rw [hok, hbit]; simp only [Option.bind_some]
  refine Evx.ite (fun h => ?_) (fun h => Evx.now ?_)
  · have h : Sok key n l := by simpa using h
    refine Evx.pos (by simp; omega) (Evx.pos (by simp; omega) ?_)
    have e1 : wrap64 (n + 1) = n + 1 := by have := h.2.1; unfold wrap64; omega
    have e2 : (if last = true then (1 : Int) else 0) % 256 = if last then 1 else 0 := by cases last <;> rfl
    rw [e1, e2, List.nil_append]
    have hy : Byt (l ++ [if last = true then (1 : Int) else 0]) := by
      intro x hx
      rcases List.mem_append.1 hx with hx | hx
      · exact hl x hx
      · rw [List.mem_singleton] at hx; cases last <;> simp at hx <;> omega
    have hlen : ((l ++ [if last = true then (1 : Int) else 0]).length : Int) = l.length + 1 := by simp
    have := h.2.1
    have h3 := h.2.2
    refine (impl_seal_l h.1.1 h.1.2 hy (by rw [hlen]; omega) (l ++ [if last = true then (1 : Int) else 0]).length (n + 1) 0 (by omega) (by omega) (by omega) (by omega) (by omega)).mono ?_
    intro r hr
    rw [hr]; unfold SealR Seal; rw [if_pos h]; rfl
  · have h : ¬ Sok key n l := by simpa using h
    unfold SealR; rw [if_neg h]
theorem fld_snoc (key x b : Int) (l : List Int) : Fld key x (l ++ [b]) = Stp key (Fld key x l) b := by simp [Fld]
theorem spec_seal_l {key : Int} (k0 : 1 ≤ key) (k1 : key ≤ 65520) {y : List Int} (hy : Byt y) (hl : (y.length : Int) ≤ 1000) (last : Bool) (d : Nat) : ∀ x i : Int, 0 ≤ x → x < 65521 → 0 ≤ i → i ≤ y.length → y.length - i = d →
    Evx (fun k => spec_SealOf.l0 k key y last x i) (fun r => r = Fld key x (y.drop i.toNat ++ [if last then 1 else 0]) * key % 65521) := by
  induction d with
  | zero =>
    intro x i x0 x1 i0 i1 hd
    refine Evx.step (fun k => by rw [spec_SealOf.l0]) (Evx.neg (by omega) ?_)
    rw [List.drop_of_length_le (by omega), List.nil_append, go_stp k0 k1 x0 x1 (by omega) (by omega : (1 : Int) ≤ 255), go_stp k0 k1 x0 x1 (by omega) (by omega : (0 : Int) ≤ 255)]
    rw [go_last k0 k1 (stp_rng _ _ _).1 (stp_rng _ _ _).2, go_last k0 k1 (stp_rng _ _ _).1 (stp_rng _ _ _).2]
    cases last
    · exact Evx.neg (by simp) (Evx.now rfl)
    · exact Evx.pos rfl (Evx.now rfl)
  | succ d ih =>
    intro x i x0 x1 i0 i1 hd
    refine Evx.step (fun k => by rw [spec_SealOf.l0]) (Evx.pos (by omega) (Evx.pos i0 ?_))
    have hb := byt_rd hy i
    have e : wrap64 (i + 1) = i + 1 := by unfold wrap64; omega
    rw [w_byte hb, go_stp k0 k1 x0 x1 hb.1 hb.2, e, rd_drop i0 (by omega)]
    exact ih _ _ (stp_rng _ _ _).1 (stp_rng _ _ _).2 (by omega) (by omega) (by omega)
theorem spec_seal_x (key n : Int) {l : List Int} (hl : Byt l) (last : Bool) : Evx (fun k => spec_SealOf.f k key n l last) (fun r => r = SealR key n l last) := by
  unfold spec_SealOf.f
  simp only [spec_in_eq, Option.bind_some]
  have no : ¬ Sok key n l → Evx (fun k => spec_SealOf.j0 k key n l last true) (fun r => r = SealR key n l last) := by
    intro h
    refine Evx.step (fun k => by rw [spec_SealOf.j0]) (Evx.pos rfl (Evx.now ?_))
    unfold SealR; rw [if_neg h]
  refine Evx.ite (fun h => Evx.ite (fun h2 => ?_) (fun h2 => no ?_)) (fun h => no ?_)
  · have h : 1 ≤ key ∧ key ≤ 65520 := by simpa using h
    have h2 : 0 ≤ n ∧ n ≤ 1000 := by simpa using h2
    by_cases h3 : (l.length : Int) > 10
    · rw [decide_eq_true h3]
      exact no (fun q => by have := q.2.2; omega)
    · rw [decide_eq_false h3]
      refine Evx.step (fun k => by rw [spec_SealOf.j0]) (Evx.neg (by simp) ?_)
      have e1 : wrap64 (n + 1) = n + 1 := by unfold wrap64; omega
      rw [e1]
      refine (spec_seal_l h.1 h.2 hl (by omega) last l.length (n + 1) 0 (by omega) (by omega) (by omega) (by omega) (by omega)).mono ?_
      intro r hr
      rw [hr]; unfold SealR Seal; rw [if_pos (show Sok key n l from ⟨h, h2, by omega⟩)]; rfl
  · intro q; exact absurd q.2.1 (by simpa using h2)
  · intro q; exact absurd q.1 (by simpa using h)
theorem seal_rng {key n : Int} {l : List Int} (last : Bool) (h : Sok key n l) : 0 ≤ SealR key n l last ∧ SealR key n l last < 65521 := by
  unfold SealR; rw [if_pos h]; unfold Seal; omega

theorem gcd_one {key : Nat} (k0 : 1 ≤ key) (k1 : key ≤ 65520) : Nat.Coprime 65521 key := by
  have hp : ∀ d : Fin 256, 2 ≤ d.val → 65521 % d.val ≠ 0 := by decide +kernel
  have small : ∀ d : Nat, d ∣ 65521 → d < 256 → d = 1 := by
    intro d hd hlt
    have h0 : d ≠ 0 := by
      rintro rfl
      have := Nat.eq_zero_of_zero_dvd hd
      omega
    by_cases h1 : d = 1
    · exact h1
    · exact absurd (Nat.mod_eq_zero_of_dvd hd) (hp ⟨d, hlt⟩ (by show 2 ≤ d; omega))
  unfold Nat.Coprime
  have hg1 := Nat.gcd_dvd_left 65521 key
  have hg2 := Nat.gcd_dvd_right 65521 key
  have hgle : Nat.gcd 65521 key ≤ key := Nat.le_of_dvd (by omega) hg2
  generalize Nat.gcd 65521 key = g at hg1 hg2 hgle
  by_cases h : g < 256
  · exact small g hg1 h
  · obtain ⟨q, hq⟩ := hg1
    have hq1 : q < 256 := by
      rcases Nat.lt_or_ge q 256 with h2 | h2
      · exact h2
      · have := Nat.mul_le_mul (show 256 ≤ g by omega) h2
        omega
    have := small q ⟨g, by rw [hq, Nat.mul_comm]⟩ hq1
    subst this
    omega
theorem cancel {key : Int} (k0 : 1 ≤ key) (k1 : key ≤ 65520) {x y : Int} (h : (x * key) % 65521 = (y * key) % 65521) : (x - y) % 65521 = 0 := by
  have hd : (65521 : Int) ∣ (x - y) * key := by
    rw [Int.sub_mul]
    exact Int.dvd_of_emod_eq_zero (by omega)
  have hn : 65521 ∣ (x - y).natAbs * key.natAbs := by
    have h1 := Int.natAbs_dvd_natAbs.2 hd
    rw [Int.natAbs_mul] at h1
    exact h1
  have hc : Nat.Coprime 65521 key.natAbs := gcd_one (by omega) (by omega)
  have := hc.dvd_of_dvd_mul_right hn
  have h2 : (65521 : Int) ∣ x - y := Int.natAbs_dvd_natAbs.1 this
  exact Int.emod_eq_zero_of_dvd h2
theorem last_inj {key : Int} (k0 : 1 ≤ key) (k1 : key ≤ 65520) {x y : Int} (x0 : 0 ≤ x) (x1 : x < 65521) (y0 : 0 ≤ y) (y1 : y < 65521) (h : x * key % 65521 = y * key % 65521) : x = y := by
  have := cancel k0 k1 h
  omega
theorem stp_inj {key : Int} (k0 : 1 ≤ key) (k1 : key ≤ 65520) {x y b : Int} (x0 : 0 ≤ x) (x1 : x < 65521) (y0 : 0 ≤ y) (y1 : y < 65521) (h : Stp key x b = Stp key y b) : x = y := by
  unfold Stp at h
  refine last_inj k0 k1 x0 x1 y0 y1 ?_
  omega
theorem stp_byte {key x b c : Int} (b0 : 0 ≤ b) (b1 : b ≤ 255) (c0 : 0 ≤ c) (c1 : c ≤ 255) (h : Stp key x b = Stp key x c) : b = c := by
  unfold Stp at h
  generalize x * key = z at h
  omega
theorem fld_inj {key : Int} (k0 : 1 ≤ key) (k1 : key ≤ 65520) (l : List Int) : ∀ {x y : Int}, 0 ≤ x → x < 65521 → 0 ≤ y → y < 65521 → Fld key x l = Fld key y l → x = y := by
  induction l with
  | nil => intro x y _ _ _ _ h; exact h
  | cons b l ih =>
    intro x y x0 x1 y0 y1 h
    exact stp_inj k0 k1 x0 x1 y0 y1 (ih (stp_rng key x b).1 (stp_rng key x b).2 (stp_rng key y b).1 (stp_rng key y b).2 h)
theorem fld_byte {key : Int} (k0 : 1 ≤ key) (k1 : key ≤ 65520) {b c : Int} (b0 : 0 ≤ b) (b1 : b ≤ 255) (c0 : 0 ≤ c) (c1 : c ≤ 255) (p q : List Int) {x : Int} (h : Fld key x (p ++ b :: q) = Fld key x (p ++ c :: q)) : b = c := by
  unfold Fld at h
  rw [List.foldl_append, List.foldl_append, List.foldl_cons, List.foldl_cons] at h
  exact stp_byte b0 b1 c0 c1 (fld_inj k0 k1 q (stp_rng _ _ _).1 (stp_rng _ _ _).2 (stp_rng _ _ _).1 (stp_rng _ _ _).2 h)
/-- Another number near by: another seal. -/
theorem seal_num {key n : Int} {l : List Int} {last : Bool} (h : Sok key n l) : SealR key (n + 1) l last ≠ SealR key n l last := by
  have r := seal_rng last h
  intro e
  by_cases h2 : Sok key (n + 1) l
  · have hn := h.2.1
    have hn2 := h2.2.1
    unfold SealR at e
    rw [if_pos h, if_pos h2] at e
    unfold Seal at e
    have f1 := fld_rng (key := key) (l ++ [if last = true then 1 else 0]) (x := n + 1 + 1) (by omega) (by omega)
    have f2 := fld_rng (key := key) (l ++ [if last = true then 1 else 0]) (x := n + 1) (by omega) (by omega)
    have e2 := last_inj h.1.1 h.1.2 f1.1 f1.2 f2.1 f2.2 e
    have e3 := fld_inj h.1.1 h.1.2 _ (by omega) (by omega) (by omega) (by omega) e2
    omega
  · unfold SealR at e r
    rw [if_neg h2] at e
    omega
/-- The other kind of end: another seal. -/
theorem seal_end {key n : Int} {l : List Int} {last : Bool} (h : Sok key n l) : SealR key n l (!last) ≠ SealR key n l last := by
  intro e
  have hn := h.2.1
  unfold SealR at e
  rw [if_pos h, if_pos h] at e
  unfold Seal at e
  have f1 := fld_rng (key := key) (l ++ [if (!last) = true then 1 else 0]) (x := n + 1) (by omega) (by omega)
  have f2 := fld_rng (key := key) (l ++ [if last = true then 1 else 0]) (x := n + 1) (by omega) (by omega)
  have e2 := last_inj h.1.1 h.1.2 f1.1 f1.2 f2.1 f2.2 e
  have e3 := fld_byte h.1.1 h.1.2 (by cases last <;> decide) (by cases last <;> decide) (by cases last <;> decide) (by cases last <;> decide) l [] e2
  cases last <;> simp at e3
/-- A byte turned: another seal. -/
theorem seal_byte {key n : Int} {p q : List Int} {b c : Int} {last : Bool} (h : Sok key n (p ++ b :: q)) (b0 : 0 ≤ b) (b1 : b ≤ 255) (c0 : 0 ≤ c) (c1 : c ≤ 255) (hbc : b ≠ c) : SealR key n (p ++ c :: q) last ≠ SealR key n (p ++ b :: q) last := by
  have h2 : Sok key n (p ++ c :: q) := ⟨h.1, h.2.1, by have := h.2.2; simp at this ⊢; omega⟩
  intro e
  have hn := h.2.1
  unfold SealR at e
  rw [if_pos h, if_pos h2] at e
  unfold Seal at e
  have f1 := fld_rng (key := key) ((p ++ c :: q) ++ [if last = true then 1 else 0]) (x := n + 1) (by omega) (by omega)
  have f2 := fld_rng (key := key) ((p ++ b :: q) ++ [if last = true then 1 else 0]) (x := n + 1) (by omega) (by omega)
  have e2 := last_inj h.1.1 h.1.2 f1.1 f1.2 f2.1 f2.2 e
  rw [List.append_assoc, List.append_assoc, List.cons_append, List.cons_append] at e2
  exact hbc (fld_byte h.1.1 h.1.2 c0 c1 b0 b1 p _ e2).symm

theorem byt_take {l : List Int} (h : Byt l) (n : Nat) : Byt (l.take n) := fun x hx => h x (List.mem_of_mem_take hx)
theorem byt_drop {l : List Int} (h : Byt l) (n : Nat) : Byt (l.drop n) := fun x hx => h x (List.mem_of_mem_drop hx)
theorem byt_app {l m : List Int} (h : Byt l) (k : Byt m) : Byt (l ++ m) := fun x hx => (List.mem_append.1 hx).elim (h x) (k x)

/-- The two bytes of a seal. -/
def Tail (s : Int) : List Int := [s / 256 % 256, s % 256]
/-- A record as bytes. -/
def RecR (key n : Int) (l : List Int) (last : Bool) : List Int :=
  if Sok key n l then ((l.length : Int) + (if last then 128 else 0)) :: (l ++ Tail (SealR key n l last)) else []
theorem sealr_no {key n : Int} {l : List Int} {last : Bool} (h : ¬ Sok key n l) : SealR key n l last = -1 := by unfold SealR; rw [if_neg h]
theorem spec_tail {s : Int} (s0 : 0 ≤ s) (s1 : s < 65521) : Evx (fun k => spec_BytesOf.f k s 2) (fun r => r = Tail s) := by
  unfold spec_BytesOf.f
  simp only [spec_in_eq, Option.bind_some]
  have a1 : decide (1 ≤ (2 : Int) ∧ (2 : Int) ≤ 4) = true := rfl
  have a2 : wrap64 (8 * 2) = 16 := by unfold wrap64; omega
  have a3 : wrap64 (shl .i64 1 16 - 1) = 65535 := by kernel_rfl
  have a4 : decide (0 ≤ s ∧ s ≤ 65535) = true := decide_eq_true (by omega)
  rw [a1, a2, a3, a4]
  refine Evx.pos rfl (Evx.pos (by omega) ?_)
  refine Evx.step (fun k => by rw [spec_BytesOf.j0]) (Evx.neg (by simp) ?_)
  refine Evx.step (fun k => by rw [spec_BytesOf.l0]) (Evx.pos (by unfold wrap64; omega) (Evx.pos (by unfold wrap64; omega) (Evx.pos (by simp) ?_)))
  refine Evx.step (fun k => by rw [spec_BytesOf.l0]) (Evx.pos (by unfold wrap64; omega) (Evx.pos (by unfold wrap64; omega) (Evx.pos (by simp) ?_)))
  refine Evx.step (fun k => by rw [spec_BytesOf.l0]) (Evx.neg (by unfold wrap64; omega) (Evx.now ?_))
  have b1 : wrap64 (8 * wrap64 (2 - 1)) = 8 := by unfold wrap64; omega
  have b2 : wrap64 (8 * wrap64 (wrap64 (2 - 1) - 1)) = 0 := by unfold wrap64; omega
  have s8 : shr .i64 s 8 = s / 256 := by unfold shr; rw [show (2 : Int) ^ (min (8 : Int).toNat IntKind.i64.bits) = 256 from by kernel_rfl]
  have s0' : shr .i64 s 0 = s := by unfold shr; rw [show (2 : Int) ^ (min (0 : Int).toNat IntKind.i64.bits) = 1 from by kernel_rfl, Int.ediv_one]
  rw [b1, b2, s8, s0', Int.tmod_eq_emod_of_nonneg (by omega), Int.tmod_eq_emod_of_nonneg (by omega)]
  unfold Tail
  simp
theorem recr_len (key n : Int) (l : List Int) (last : Bool) : (RecR key n l last).length ≤ 13 := by
  unfold RecR
  by_cases h : Sok key n l
  · rw [if_pos h]; have := h.2.2; simp [Tail]; omega
  · rw [if_neg h]; simp
theorem byt_tail (s : Int) : Byt (Tail s) := by
  intro x hx
  simp [Tail] at hx
  rcases hx with hx | hx <;> omega
theorem recr_byt {key n : Int} {l : List Int} (hl : Byt l) (last : Bool) : Byt (RecR key n l last) := by
  unfold RecR
  by_cases h : Sok key n l
  · rw [if_pos h]
    have := h.2.2
    intro x hx
    rcases List.mem_cons.1 hx with hx | hx
    · cases last <;> simp at hx <;> omega
    · rcases List.mem_append.1 hx with hx | hx
      · exact hl x hx
      · exact byt_tail _ x hx
  · rw [if_neg h]; exact byt_nil
theorem spec_record_x (key n : Int) {l : List Int} (hl : Byt l) (hn : (l.length : Int) ≤ 100000000) (last : Bool) : Evx (fun k => spec_RecordBytes.f k key n l last) (fun r => r = RecR key n l last) := by
  unfold spec_RecordBytes.f
  refine Evx.bind (spec_seal_x key n hl last) fun s hs => ?_
  by_cases h : Sok key n l
  · have h0 := seal_rng last h
    rw [← hs] at h0
    refine Evx.neg (by omega) ?_
    have h3 := h.2.2
    simp only [Option.bind_some]
    unfold RecR
    rw [if_pos h, ← hs]
    cases last
    · refine Evx.neg (by simp) (Evx.pos (by simp; omega) ?_)
      refine Evx.bind (spec_tail h0.1 h0.2) fun t ht => ?_
      subst ht
      refine Evx.pos (by simp [Tail]; omega) (Evx.now ?_)
      have e : (l.length : Int) % 256 = (l.length : Int) := by omega
      rw [e]; simp
    · refine Evx.pos rfl (Evx.pos (by simp; omega) ?_)
      refine Evx.bind (spec_tail h0.1 h0.2) fun t ht => ?_
      subst ht
      refine Evx.pos (by simp [Tail]; omega) (Evx.now ?_)
      have e : wrap64 ((l.length : Int) + 128) % 256 = (l.length : Int) + 128 := by unfold wrap64; omega
      rw [e]; simp
  · rw [sealr_no h] at hs
    refine Evx.pos (by omega) (Evx.now ?_)
    unfold RecR; rw [if_neg h]

theorem impl_tail (s : Int) : Evx (fun k => impl_bytesOf.f k s 2) (fun r => r = Tail s) := by
  unfold impl_bytesOf.f
  refine Evx.pos (by omega) (Evx.pos (by omega) ?_)
  refine Evx.step (fun k => by rw [impl_bytesOf.l0]) (Evx.pos (by unfold wrap64; omega) (Evx.pos (by unfold wrap64; omega) (Evx.pos (by simp [wrap64]) ?_)))
  refine Evx.step (fun k => by rw [impl_bytesOf.l0]) (Evx.pos (by unfold wrap64; omega) (Evx.pos (by unfold wrap64; omega) (Evx.pos (by simp [wrap64]) ?_)))
  refine Evx.step (fun k => by rw [impl_bytesOf.l0]) (Evx.neg (by unfold wrap64; omega) (Evx.now ?_))
  rw [show (wrap64 (2 - 1)).toNat = 1 from by unfold wrap64; omega, show (wrap64 (wrap64 (2 - 1) - 1)).toNat = 0 from by unfold wrap64; omega]
  rfl
theorem impl_record_x (key n : Int) {l : List Int} (hl : Byt l) (hn : (l.length : Int) ≤ 100000000) (last : Bool) : Evx (fun k => impl_RecordBytes.f k key n l last) (fun r => r = RecR key n l last) := by
  unfold impl_RecordBytes.f
  refine Evx.bind (impl_seal_x key n hl hn last) fun s hs => ?_
  by_cases h : Sok key n l
  · have h0 := seal_rng last h
    rw [← hs] at h0
    refine Evx.neg (by omega) ?_
    have hbit : impl_bit.f last 128 = some (if last then 128 else 0) := by unfold impl_bit.f; cases last <;> rfl
    rw [hbit]; simp only [Option.bind_some]
    refine Evx.bind (impl_tail s) fun t ht => ?_
    subst ht
    refine Evx.pos (by simp; omega) (Evx.pos (by simp [Tail]; omega) (Evx.now ?_))
    have h3 := h.2.2
    unfold RecR
    rw [if_pos h, ← hs]
    have e : wrap64 ((l.length : Int) + (if last = true then 128 else 0)) % 256 = (l.length : Int) + (if last = true then 128 else 0) := by cases last <;> simp [wrap64] <;> omega
    rw [e]
    simp
  · rw [sealr_no h] at hs
    refine Evx.pos (by omega) (Evx.now ?_)
    unfold RecR; rw [if_neg h]

/-- Bytes as a stream of records, from the record n on. -/
def Strm (key : Int) : Nat → Int → List Int → List Int
  | 0, _, _ => []
  | d + 1, n, l => if l.length > 10 then RecR key n (l.take 10) false ++ Strm key d (n + 1) (l.drop 10) else RecR key n l true
theorem strm_len (key : Int) : ∀ (d : Nat) (n : Int) (l : List Int), (Strm key d n l).length ≤ 2 * l.length + 13 := by
  intro d
  induction d with
  | zero => intro n l; simp [Strm]
  | succ d ih =>
    intro n l
    unfold Strm
    by_cases h : l.length > 10
    · rw [if_pos h, List.length_append]
      have h1 := recr_len key n (l.take 10) false
      have h2 := ih (n + 1) (l.drop 10)
      rw [List.length_drop] at h2
      omega
    · rw [if_neg h]; have := recr_len key n l true; omega
theorem strm_byt (key : Int) : ∀ (d : Nat) (n : Int) (l : List Int), Byt l → Byt (Strm key d n l) := by
  intro d
  induction d with
  | zero => intro n l hl; exact byt_nil
  | succ d ih =>
    intro n l hl
    unfold Strm
    by_cases h : l.length > 10
    · rw [if_pos h]; exact byt_app (recr_byt (byt_take hl _) _) (ih _ _ (byt_drop hl _))
    · rw [if_neg h]; exact recr_byt hl _
/-- What Sealed returns. -/
def SealedR (key : Int) (l : List Int) : List Int := if (1 ≤ key ∧ key ≤ 65520) ∧ l.length ≤ 1000 then Strm key 1001 0 l else []
theorem sealedr_len (key : Int) (l : List Int) : (SealedR key l).length ≤ 2013 := by
  unfold SealedR
  by_cases h : (1 ≤ key ∧ key ≤ 65520) ∧ l.length ≤ 1000
  · rw [if_pos h]; have := strm_len key 1001 0 l; omega
  · rw [if_neg h]; simp

theorem impl_sealed_l (key : Int) (d : Nat) : ∀ (x out : List Int) (n : Int), x.length < d → Byt x → 0 ≤ n → n + x.length ≤ 1000 → out.length + 2 * x.length ≤ 2000 →
    Evx (fun k => impl_Sealed.l0 k key x out n) (fun r => r = out ++ Strm key d n x) := by
  induction d with
  | zero => intro x out n h; omega
  | succ d ih =>
    intro x out n h hb n0 hn ho
    refine Evx.step (fun k => by rw [impl_Sealed.l0]) ?_
    refine Evx.ite (fun c => Evx.pos (by omega) ?_) (fun c => ?_)
    · have ht : (x.take 10).length = 10 := by rw [List.length_take]; omega
      have hr := recr_len key n (x.take 10) false
      refine Evx.bind (impl_record_x key n (byt_take hb 10) (by omega) false) fun r hr' => ?_
      subst hr'
      have e : wrap64 (n + 1) = n + 1 := by unfold wrap64; omega
      rw [e]
      refine Evx.pos (by omega) ((ih _ _ _ (by rw [List.length_drop]; omega) (byt_drop hb 10) (by omega) (by rw [List.length_drop]; omega) (by rw [List.length_drop, List.length_append]; omega)).mono fun r hr' => ?_)
      rw [hr', Strm, if_pos (by omega), List.append_assoc]
    · have hr := recr_len key n x true
      refine Evx.bind (impl_record_x key n hb (by omega) true) fun r hr' => ?_
      subst hr'
      refine Evx.pos (by omega) (Evx.now ?_)
      rw [Strm, if_neg (by omega)]
theorem impl_sealed_x (key : Int) {l : List Int} (hl : Byt l) : Evx (fun k => impl_Sealed.f k key l) (fun r => r = SealedR key l) := by
  have hok : impl_sealOk.f key 0 [] = some (decide (1 ≤ key ∧ key ≤ 65520)) := by
    unfold impl_sealOk.f
    simp only [impl_in_eq, Option.bind_some]
    by_cases h : 1 ≤ key ∧ key ≤ 65520
    · rw [if_pos (by simpa using h)]; simp [h]
    · rw [if_neg (by simpa using h)]; simp [h]
  unfold impl_Sealed.f
  rw [hok]; simp only [Option.bind_some]
  unfold SealedR
  refine Evx.ite (fun h => ?_) (fun h => ?_)
  · have h : 1 ≤ key ∧ key ≤ 65520 := by simpa using h
    refine Evx.step (fun k => by rw [impl_Sealed.j0]) ?_
    refine Evx.ite (fun c => Evx.now ?_) (fun c => ?_)
    · have c : (l.length : Int) > 1000 := by simpa using c
      rw [if_neg (fun q => by omega)]
    · have c : ¬ (l.length : Int) > 1000 := by simpa using c
      rw [if_pos ⟨h, by omega⟩]
      refine (impl_sealed_l key 1001 l [] 0 (by omega) hl (by omega) (by omega) (by simp; omega)).mono fun r hr => ?_
      rw [hr]; rfl
  · have h : ¬ (1 ≤ key ∧ key ≤ 65520) := by simpa using h
    refine Evx.step (fun k => by rw [impl_Sealed.j0]) (Evx.pos rfl (Evx.now ?_))
    rw [if_neg (fun q => h q.1)]

theorem spec_sealed_l (key : Int) {l : List Int} (hb : Byt l) (hl : l.length ≤ 1000) (d : Nat) : ∀ (out : List Int) (n a : Int), (l.length : Int) - a < d → 0 ≤ a → a ≤ l.length → (a = 0 ∨ a < l.length) → 0 ≤ n → n ≤ a → (out.length : Int) ≤ 2 * a →
    Evx (fun k => spec_Sealed.l0 k key l out n a) (fun r => r = out ++ Strm key d n (l.drop a.toNat)) := by
  induction d with
  | zero => intro out n a h; omega
  | succ d ih =>
    intro out n a h a0 a1 hc n0 hn ho
    have e10 : wrap64 (a + 10) = a + 10 := by unfold wrap64; omega
    have en : wrap64 (n + 1) = n + 1 := by unfold wrap64; omega
    have body : Evx (fun k => (if 0 ≤ a then (if a ≤ (mn (wrap64 (a + 10)) (l.length : Int)) then (if (mn (wrap64 (a + 10)) (l.length : Int)) ≤ (l.length : Int) then ((spec_RecordBytes.f k key n ((l.take ((mn (wrap64 (a + 10)) (l.length : Int)) : Int).toNat).drop (a : Int).toNat) ((mn (wrap64 (a + 10)) (l.length : Int)) == (l.length : Int))).bind fun t157 => (if out.length + t157.length < 140737488355328 then (spec_Sealed.l0 k key l (out ++ t157) (wrap64 (n + 1)) (wrap64 (a + 10))) else (none))) else (none)) else (none)) else (none))) (fun r => r = out ++ Strm key (d + 1) n (l.drop a.toNat)) := by
      rw [e10, en]
      have hdl : (l.drop a.toNat).length = l.length - a.toNat := List.length_drop
      by_cases c : (l.drop a.toNat).length > 10
      · have em : mn (a + 10) (l.length : Int) = a + 10 := by unfold mn; exact if_neg (by omega)
        have et : (l.take (a + 10).toNat).drop a.toNat = (l.drop a.toNat).take 10 := by
          rw [List.drop_take]; congr 1; omega
        have eb : ((a + 10) == (l.length : Int)) = false := by simp; omega
        rw [em, et, eb]
        have hr := recr_len key n ((l.drop a.toNat).take 10) false
        refine Evx.pos a0 (Evx.pos (by omega) (Evx.pos (by omega) ?_))
        refine Evx.bind (spec_record_x key n (byt_take (byt_drop hb _) 10) (by rw [List.length_take]; omega) false) fun r hr' => ?_
        subst hr'
        refine Evx.pos (by omega) ((ih _ _ _ (by omega) (by omega) (by omega) (by omega) (by omega) (by omega) (by rw [List.length_append]; omega)).mono fun r hr' => ?_)
        rw [hr', Strm, if_pos c, List.append_assoc, List.drop_drop]
        congr 4; omega
      · have em : mn (a + 10) (l.length : Int) = l.length := by unfold mn; split <;> omega
        have eb : ((l.length : Int) == (l.length : Int)) = true := by simp
        rw [em, eb, Int.toNat_natCast, List.take_length]
        have hr := recr_len key n (l.drop a.toNat) true
        refine Evx.pos a0 (Evx.pos (by omega) (Evx.pos (by omega) ?_))
        refine Evx.bind (spec_record_x key n (byt_drop hb _) (by omega) true) fun r hr' => ?_
        subst hr'
        refine Evx.pos (by omega) ?_
        refine Evx.step (fun k => by rw [spec_Sealed.l0]) (Evx.neg (by omega) (Evx.neg (by omega) (Evx.now ?_)))
        rw [Strm, if_neg c]
    refine Evx.step (fun k => by rw [spec_Sealed.l0]) ?_
    exact Evx.ite (fun _ => body) (fun c => Evx.pos (by omega) body)
theorem spec_sealed_x (key : Int) {l : List Int} (hl : Byt l) : Evx (fun k => spec_Sealed.f k key l) (fun r => r = SealedR key l) := by
  unfold spec_Sealed.f
  simp only [spec_in_eq, Option.bind_some]
  unfold SealedR
  refine Evx.ite (fun h => ?_) (fun h => ?_)
  · have h : 1 ≤ key ∧ key ≤ 65520 := by simpa using h
    refine Evx.step (fun k => by rw [spec_Sealed.j0]) ?_
    refine Evx.ite (fun c => Evx.now ?_) (fun c => ?_)
    · have c : (l.length : Int) > 1000 := by simpa using c
      rw [if_neg (fun q => by omega)]
    · have c : ¬ (l.length : Int) > 1000 := by simpa using c
      rw [if_pos ⟨h, by omega⟩]
      refine (spec_sealed_l key hl (by omega) 1001 [] 0 0 (by omega) (by omega) (by omega) (by omega) (by omega) (by omega) (by simp)).mono fun r hr => ?_
      rw [hr]; rfl
  · have h : ¬ (1 ≤ key ∧ key ≤ 65520) := by simpa using h
    refine Evx.step (fun k => by rw [spec_Sealed.j0]) (Evx.pos rfl (Evx.now ?_))
    rw [if_neg (fun q => h q.1)]

theorem or_byte {x y : Int} (hx : 0 ≤ x) (hx1 : x < 1000000) (hy : 0 ≤ y) (hy1 : y < 256) : Go.bits .or .i64 (x * 256) y = x * 256 + y := by
  obtain ⟨a, rfl⟩ := Int.eq_ofNat_of_zero_le hx
  obtain ⟨b, rfl⟩ := Int.eq_ofNat_of_zero_le hy
  have hb : b < 2 ^ 8 := by omega
  have hor := Nat.shiftLeft_add_eq_or_of_lt hb a
  rw [Nat.shiftLeft_eq] at hor
  have ea : ((a : Int) * 256) = ((a * 2 ^ 8 : Nat) : Int) := by omega
  rw [ea]
  unfold Go.bits
  simp only [BitVec.ofInt_natCast, BitVec.toNat_or, BitVec.toNat_ofNat]
  rw [IntKind.wrap_i64]
  have e : IntKind.i64.bits = 64 := rfl
  rw [e, Nat.mod_eq_of_lt (by omega), Nat.mod_eq_of_lt (by omega), ← hor]
  omega
/-- The number of two bytes. -/
def Num (b : List Int) (i : Int) : Int := rd b i * 256 + rd b (i + 1)
theorem rd_cut {b : List Int} {i j : Int} {m : Nat} (i0 : 0 ≤ i) (j0 : 0 ≤ j) (h : i + j < m) (hm : m ≤ b.length) : rd ((b.take m).drop i.toNat) j = rd b (i + j) := by
  unfold rd
  rw [List.getD_eq_getElem?_getD, List.getD_eq_getElem?_getD, List.getElem?_drop, List.getElem?_take, if_pos (by omega)]
  congr 2; omega
theorem impl_num_x {b : List Int} (hb : Byt b) (hm : (b.length : Int) ≤ 100000000) {i : Int} (i0 : 0 ≤ i) (i1 : i + 2 ≤ b.length) : Evx (fun k => impl_NumberAt.f k b i 2) (fun r => r = Num b i) := by
  have e1 : wrap64 ((b.length : Int) - 2) = b.length - 2 := by unfold wrap64; omega
  have e2 : wrap64 (i + 2) = i + 2 := by unfold wrap64; omega
  unfold impl_NumberAt.f
  simp only [impl_in_eq, Option.bind_some]
  rw [e1, decide_eq_false (show ¬ i > (b.length : Int) - 2 by omega)]
  refine Evx.pos (by simp) (Evx.neg (by omega) ?_)
  refine Evx.step (fun k => by rw [impl_NumberAt.j0]) ?_
  rw [e2]
  refine Evx.neg (by simp) (Evx.pos i0 (Evx.pos (by omega) (Evx.pos (by omega) ?_)))
  have hl : ((((b.take (i + 2).toNat).drop i.toNat).length : Nat) : Int) = 2 := by rw [List.length_drop, List.length_take]; omega
  have r0 : rd ((b.take (i + 2).toNat).drop i.toNat) 0 = rd b i := by rw [rd_cut i0 (by omega) (by omega) (by omega)]; congr 1; omega
  have r1 : rd ((b.take (i + 2).toNat).drop i.toNat) 1 = rd b (i + 1) := rd_cut i0 (by omega) (by omega) (by omega)
  generalize (b.take (i + 2).toNat).drop i.toNat = s at hl r0 r1 ⊢
  have h0 := byt_rd hb i
  have h1 := byt_rd hb (i + 1)
  rw [hl]
  refine Evx.step (fun k => by rw [impl_NumberAt.l0]) (Evx.pos (by omega) (Evx.pos (by omega) (Evx.pos (by omega) ?_)))
  have w1 : wrap64 (0 + 1) = 1 := by unfold wrap64; omega
  have w2 : wrap64 (1 + 1) = 2 := by unfold wrap64; omega
  have w3 : wrap64 (0 * 256) = 0 * 256 := by unfold wrap64; omega
  rw [w1, r0, w_byte h0, w3, or_byte (by omega) (by omega) h0.1 (by omega)]
  refine Evx.step (fun k => by rw [impl_NumberAt.l0]) (Evx.pos (by omega) (Evx.pos (by omega) (Evx.pos (by omega) ?_)))
  have w4 : wrap64 ((0 * 256 + rd b i) * 256) = rd b i * 256 := by unfold wrap64; omega
  rw [w2, r1, w_byte h1, w4, or_byte (by omega) (by omega) h1.1 (by omega)]
  refine Evx.step (fun k => by rw [impl_NumberAt.l0]) ?_
  exact Evx.neg (by omega) (Evx.now rfl)
/-- Whether a key and a number are some. -/
def Kok (key n : Int) : Prop := (1 ≤ key ∧ key ≤ 65520) ∧ (0 ≤ n ∧ n ≤ 1000)
instance (key n : Int) : Decidable (Kok key n) := by unfold Kok; infer_instance
/-- What is behind the head of a record. -/
def Dat (b : List Int) : List Int := (b.take (rd b 0 % 128 + 1).toNat).drop 1
/-- What RecordFrom returns. -/
def FromR (key n : Int) (b : List Int) : List Int × Bool × Int :=
  if Kok key n then
    if b.length = 0 then ([], false, 0)
    else if rd b 0 % 128 > 10 then ([], false, -1)
    else if (b.length : Int) < rd b 0 % 128 + 3 then ([], false, 0)
    else if Num b (rd b 0 % 128 + 1) = SealR key n (Dat b) (decide (rd b 0 ≥ 128)) then (Dat b, decide (rd b 0 ≥ 128), rd b 0 % 128 + 3)
    else ([], false, -1)
  else ([], false, -1)
theorem clone_eq {l : List Int} (h : (l.length : Int) ≤ 100000000) : impl_clone_byte.f l = some l := by
  unfold impl_clone_byte.f
  by_cases c : (l.length : Int) = 0
  · have e : l = [] := List.length_eq_zero_iff.1 (by omega)
    subst e; rw [if_pos c]
  · rw [if_neg c]; simp only [Option.bind_some]; rw [if_pos (by simp; omega)]; simp
theorem sealok_nil (key n : Int) : impl_sealOk.f key n [] = some (decide (Kok key n)) := by
  unfold impl_sealOk.f
  simp only [impl_in_eq, Option.bind_some]
  by_cases h : 1 ≤ key ∧ key ≤ 65520
  · rw [if_pos (by simpa using h)]
    by_cases h2 : 0 ≤ n ∧ n ≤ 1000
    · rw [if_pos (by simpa using h2)]; simp [Kok, h, h2]
    · rw [if_neg (by simpa using h2)]; simp [Kok, h, h2]
  · rw [if_neg (by simpa using h)]; simp [Kok, h]
theorem dat_len {b : List Int} (h0 : 0 ≤ rd b 0 % 128) (h1 : rd b 0 % 128 ≤ 10) : (Dat b).length ≤ 10 := by
  unfold Dat; rw [List.length_drop, List.length_take]; omega
theorem impl_from_x (key n : Int) {b : List Int} (hb : Byt b) (hm : (b.length : Int) ≤ 100000000) : Evx (fun k => impl_RecordFrom.f k key n b) (fun r => r = FromR key n b) := by
  have h0 := byt_rd hb 0
  have em : Int.tmod (wrap64 (rd b 0)) 128 = rd b 0 % 128 := by rw [w_byte h0, Int.tmod_eq_emod_of_nonneg h0.1]
  unfold impl_RecordFrom.f
  rw [sealok_nil]; simp only [Option.bind_some]
  rw [em]
  have e1 : wrap64 (rd b 0 % 128 + 1) = rd b 0 % 128 + 1 := by unfold wrap64; omega
  have e3 : wrap64 (rd b 0 % 128 + 3) = rd b 0 % 128 + 3 := by unfold wrap64; omega
  rw [e1, e3]
  unfold FromR
  refine Evx.ite (fun h => ?_) (fun h => ?_)
  · rw [if_pos (by simpa using h)]
    refine Evx.ite (fun h => ?_) (fun h => ?_)
    · rw [if_pos (by omega)]; exact Evx.now rfl
    rw [if_neg (by omega)]
    refine Evx.pos (by omega) ?_
    refine Evx.ite (fun h => ?_) (fun h => ?_)
    · rw [if_pos h]; exact Evx.now rfl
    rw [if_neg h]
    refine Evx.ite (fun h => ?_) (fun h => ?_)
    · rw [if_pos h]; exact Evx.now rfl
    rw [if_neg h]
    refine Evx.pos (by omega) (Evx.pos (by omega) ?_)
    have hd := dat_len (b := b) (by omega) (by omega)
    have hc : impl_clone_byte.f ((b.take (rd b 0 % 128 + 1).toNat).drop 1) = some (Dat b) := clone_eq (l := Dat b) (by omega)
    rw [hc]; simp only [Option.bind_some]
    refine Evx.bind (impl_seal_x key n (l := Dat b) (byt_drop (byt_take hb _) _) (by omega) _) fun s hs => ?_
    refine Evx.bind (impl_num_x hb hm (by omega) (by omega)) fun m hm' => ?_
    subst hs hm'
    refine Evx.ite (fun h => ?_) (fun h => ?_)
    · rw [if_pos h.symm]; exact Evx.now rfl
    · rw [if_neg (fun q => h q.symm)]; exact Evx.now rfl
  · rw [if_neg (by simpa using h)]; exact Evx.now rfl
theorem fromr_len (key n : Int) {b : List Int} (hb : Byt b) : (FromR key n b).1.length ≤ 10 := by
  have h0 := byt_rd hb 0
  unfold FromR
  split
  · split
    · simp
    · split
      · simp
      · split
        · simp
        · split
          · exact dat_len (by omega) (by omega)
          · simp
  · simp
theorem fromr_byt (key n : Int) {b : List Int} (hb : Byt b) : Byt (FromR key n b).1 := by
  unfold FromR
  split
  · split
    · exact byt_nil
    · split
      · exact byt_nil
      · split
        · exact byt_nil
        · split
          · exact byt_drop (byt_take hb _) _
          · exact byt_nil
  · exact byt_nil

/-- What Opened returns, with what was read before. -/
def OpenR (key : Int) : Nat → Int → List Int → List Int → List Int × Bool
  | 0, _, _, out => (out, false)
  | d + 1, n, b, out => if (FromR key n b).2.2 ≤ 0 then (out, false) else if (FromR key n b).2.1 = true then (out ++ (FromR key n b).1, decide ((b.length : Int) = (FromR key n b).2.2)) else OpenR key d (n + 1) (b.drop (FromR key n b).2.2.toNat) (out ++ (FromR key n b).1)
theorem fromr_pos {key n : Int} {b : List Int} (hb : Byt b) (h : ¬ (FromR key n b).2.2 ≤ 0) : 3 ≤ (FromR key n b).2.2 ∧ (FromR key n b).2.2 ≤ b.length ∧ ((FromR key n b).1.length : Int) = (FromR key n b).2.2 - 3 := by
  have h0 := byt_rd hb 0
  unfold FromR at h ⊢
  by_cases c1 : Kok key n
  · rw [if_pos c1] at h ⊢
    by_cases c2 : b.length = 0
    · rw [if_pos c2] at h; exact absurd (Int.le_refl 0) h
    · rw [if_neg c2] at h ⊢
      by_cases c3 : rd b 0 % 128 > 10
      · rw [if_pos c3] at h; exact absurd (show (-1 : Int) ≤ 0 by omega) h
      · rw [if_neg c3] at h ⊢
        by_cases c4 : (b.length : Int) < rd b 0 % 128 + 3
        · rw [if_pos c4] at h; exact absurd (Int.le_refl 0) h
        · rw [if_neg c4] at h ⊢
          by_cases c5 : Num b (rd b 0 % 128 + 1) = SealR key n (Dat b) (decide (rd b 0 ≥ 128))
          · rw [if_pos c5]
            refine ⟨?_, ?_, ?_⟩
            · show (3 : Int) ≤ rd b 0 % 128 + 3; omega
            · show rd b 0 % 128 + 3 ≤ _; omega
            · show ((Dat b).length : Int) = rd b 0 % 128 + 3 - 3
              unfold Dat; rw [List.length_drop, List.length_take]; omega
          · rw [if_neg c5] at h; exact absurd (show (-1 : Int) ≤ 0 by omega) h
  · rw [if_neg c1] at h; exact absurd (show (-1 : Int) ≤ 0 by omega) h
theorem impl_opened_l (key : Int) (d : Nat) : ∀ (b out : List Int) (n : Int), b.length < d → Byt b → 0 ≤ n → n + b.length ≤ 10000000 → out.length + b.length ≤ 10000000 →
    Evx (fun k => impl_Opened.l0 k key b out n) (fun r => r = OpenR key d n b out) := by
  induction d with
  | zero => intro b out n h; omega
  | succ d ih =>
    intro b out n h hb n0 hn ho
    refine Evx.step (fun k => by rw [impl_Opened.l0]) ?_
    refine Evx.bind (impl_from_x key n hb (by omega)) fun r hr => ?_
    have hp := fromr_pos (key := key) (n := n) hb
    unfold OpenR
    rw [← hr] at hp ⊢
    refine Evx.ite (fun c => ?_) (fun c => ?_)
    · rw [if_pos c, clone_eq (by omega)]; exact Evx.now rfl
    · rw [if_neg c]
      have hp := hp c
      have hal : ((out ++ r.1).length : Int) = out.length + r.1.length := by simp
      simp only [Option.bind_some]
      refine Evx.pos (by omega) (Evx.pos (by omega) (Evx.pos hp.2.1 ?_))
      rw [clone_eq (by omega)]
      simp only [Option.bind_some]
      refine Evx.ite (fun c2 => ?_) (fun c2 => ?_)
      · rw [if_pos c2]
        refine Evx.now ?_
        congr 1
        rw [List.length_drop, Bool.eq_iff_iff]
        simp
        omega
      · rw [if_neg c2]
        have e : wrap64 (n + 1) = n + 1 := by unfold wrap64; omega
        rw [e]
        exact ih _ _ _ (by rw [List.length_drop]; omega) (byt_drop hb _) (by omega) (by rw [List.length_drop]; omega) (by rw [List.length_drop]; omega)
theorem openr_len (key : Int) (d : Nat) : ∀ (n : Int) (b out : List Int), Byt b → (OpenR key d n b out).1.length ≤ out.length + b.length := by
  induction d with
  | zero => intro n b out hb; simp [OpenR]
  | succ d ih =>
    intro n b out hb
    have hp := fromr_pos (key := key) (n := n) hb
    unfold OpenR
    split
    · simp
    · rename_i c
      have hp := hp c
      split
      · simp; omega
      · have h1 := ih (n + 1) (b.drop (FromR key n b).2.2.toNat) (out ++ (FromR key n b).1) (byt_drop hb _)
        rw [List.length_append, List.length_drop] at h1
        omega
/-- What Opened returns. -/
def OpenedR (key : Int) (b : List Int) : List Int × Bool := OpenR key (b.length + 1) 0 b []
theorem openedr_len (key : Int) {b : List Int} (hb : Byt b) : (OpenedR key b).1.length ≤ b.length := by
  have := openr_len key (b.length + 1) 0 b [] hb
  unfold OpenedR
  simpa using this
theorem impl_opened_x (key : Int) {b : List Int} (hb : Byt b) (hm : (b.length : Int) ≤ 2000000) : Evx (fun k => impl_Opened.f k key b) (fun r => r = OpenedR key b) := by
  unfold impl_Opened.f
  exact impl_opened_l key (b.length + 1) b [] 0 (by omega) hb (by omega) (by omega) (by simp; omega)

theorem rd_cons0 (h : Int) (r : List Int) : rd (h :: r) 0 = h := rfl
theorem rd_cons {h : Int} {r : List Int} {j : Int} (j0 : 0 ≤ j) : rd (h :: r) (j + 1) = rd r j := by
  unfold rd
  rw [show (j + 1).toNat = j.toNat + 1 by omega]; rfl
theorem rd_app {l r : List Int} {j : Int} (j0 : 0 ≤ j) : rd (l ++ r) (l.length + j) = rd r j := by
  unfold rd
  rw [List.getD_eq_getElem?_getD, List.getD_eq_getElem?_getD, List.getElem?_append_right (by omega)]
  congr 2; omega
theorem rec_cons {key n : Int} {l : List Int} {last : Bool} (h : Sok key n l) : RecR key n l last = ((l.length : Int) + (if last then 128 else 0)) :: (l ++ Tail (SealR key n l last)) := by
  unfold RecR; rw [if_pos h]
theorem rec_len {key n : Int} {l : List Int} {last : Bool} (h : Sok key n l) : (RecR key n l last).length = l.length + 3 := by
  rw [rec_cons h]; simp [Tail]
theorem rec_nil {key n : Int} {l : List Int} {last : Bool} (h : ¬ Sok key n l) : RecR key n l last = [] := by
  unfold RecR; rw [if_neg h]
/-- What the parts of a record are read as. -/
theorem rec_parts {key n : Int} {l : List Int} {last : Bool} (h : Sok key n l) (t : List Int) :
    rd (RecR key n l last ++ t) 0 % 128 = l.length ∧ decide (rd (RecR key n l last ++ t) 0 ≥ 128) = last ∧ Dat (RecR key n l last ++ t) = l ∧ Num (RecR key n l last ++ t) (l.length + 1) = SealR key n l last := by
  have h3 := h.2.2
  have hs := seal_rng last h
  have hd : rd (RecR key n l last ++ t) 0 = (l.length : Int) + (if last then 128 else 0) := by rw [rec_cons h]; rfl
  have hm : rd (RecR key n l last ++ t) 0 % 128 = l.length := by rw [hd]; cases last <;> simp <;> omega
  refine ⟨hm, ?_, ?_, ?_⟩
  · rw [hd]; cases last <;> simp <;> omega
  · unfold Dat
    rw [hm, rec_cons h]
    rw [show ((l.length : Int) + 1).toNat = l.length + 1 by omega]
    simp
  · unfold Num
    rw [rec_cons h, List.cons_append, rd_cons (by omega), rd_cons (by omega), List.append_assoc]
    have e0 := rd_app (l := l) (r := Tail (SealR key n l last) ++ t) (j := 0) (by omega)
    have e1 := rd_app (l := l) (r := Tail (SealR key n l last) ++ t) (j := 1) (by omega)
    rw [Int.add_zero] at e0
    rw [e0, e1]
    have f0 : rd (Tail (SealR key n l last) ++ t) 0 = SealR key n l last / 256 % 256 := rfl
    have f1 : rd (Tail (SealR key n l last) ++ t) 1 = SealR key n l last % 256 := rfl
    rw [f0, f1]; omega
theorem from_rec {key n : Int} {l : List Int} {last : Bool} (h : Sok key n l) (t : List Int) : FromR key n (RecR key n l last ++ t) = (l, last, (l.length : Int) + 3) := by
  have h3 := h.2.2
  have hp := rec_parts (last := last) h t
  have hl : (RecR key n l last ++ t).length = l.length + 3 + t.length := by rw [List.length_append, rec_len h]
  unfold FromR
  rw [hp.1, hp.2.1, hp.2.2.1, hp.2.2.2, if_pos ⟨h.1, h.2.1⟩, if_neg (by omega), if_neg (by omega), if_neg (by omega), if_pos rfl]
theorem same_x (l : List Int) : laws_sameBytes.f l l = some true := by unfold laws_sameBytes.f; simp

theorem fromr_ok {key n : Int} {b : List Int} (h : ¬ (FromR key n b).2.2 ≤ 0) : Kok key n ∧ b.length ≠ 0 ∧ rd b 0 % 128 ≤ 10 ∧ rd b 0 % 128 + 3 ≤ b.length ∧ Num b (rd b 0 % 128 + 1) = SealR key n (Dat b) (decide (rd b 0 ≥ 128)) ∧ FromR key n b = (Dat b, decide (rd b 0 ≥ 128), rd b 0 % 128 + 3) := by
  unfold FromR at h ⊢
  by_cases c1 : Kok key n
  · rw [if_pos c1] at h ⊢
    by_cases c2 : b.length = 0
    · rw [if_pos c2] at h; exact absurd (Int.le_refl 0) h
    · rw [if_neg c2] at h ⊢
      by_cases c3 : rd b 0 % 128 > 10
      · rw [if_pos c3] at h; exact absurd (show (-1 : Int) ≤ 0 by omega) h
      · rw [if_neg c3] at h ⊢
        by_cases c4 : (b.length : Int) < rd b 0 % 128 + 3
        · rw [if_pos c4] at h; exact absurd (Int.le_refl 0) h
        · rw [if_neg c4] at h ⊢
          by_cases c5 : Num b (rd b 0 % 128 + 1) = SealR key n (Dat b) (decide (rd b 0 ≥ 128))
          · rw [if_pos c5]
            exact ⟨c1, c2, by omega, by omega, c5, rfl⟩
          · rw [if_neg c5] at h; exact absurd (show (-1 : Int) ≤ 0 by omega) h
  · rw [if_neg c1] at h; exact absurd (show (-1 : Int) ≤ 0 by omega) h
theorem fromr_no {key n : Int} {b : List Int} (h : (FromR key n b).2.2 < 1) (hb : Byt b) : (FromR key n b).1 = [] ∧ (FromR key n b).2.1 = false := by
  have h0 := byt_rd hb 0
  unfold FromR at h ⊢
  by_cases c1 : Kok key n
  · rw [if_pos c1] at h ⊢
    by_cases c2 : b.length = 0
    · rw [if_pos c2]; exact ⟨rfl, rfl⟩
    · rw [if_neg c2] at h ⊢
      by_cases c3 : rd b 0 % 128 > 10
      · rw [if_pos c3]; exact ⟨rfl, rfl⟩
      · rw [if_neg c3] at h ⊢
        by_cases c4 : (b.length : Int) < rd b 0 % 128 + 3
        · rw [if_pos c4]; exact ⟨rfl, rfl⟩
        · rw [if_neg c4] at h ⊢
          by_cases c5 : Num b (rd b 0 % 128 + 1) = SealR key n (Dat b) (decide (rd b 0 ≥ 128))
          · rw [if_pos c5] at h
            have h : rd b 0 % 128 + 3 < 1 := h
            omega
          · rw [if_neg c5]; exact ⟨rfl, rfl⟩
  · rw [if_neg c1]; exact ⟨rfl, rfl⟩
theorem rd_take {l : List Int} {j : Int} {m : Nat} (j0 : 0 ≤ j) (h : j < m) : rd (l.take m) j = rd l j := by
  unfold rd
  rw [List.getD_eq_getElem?_getD, List.getD_eq_getElem?_getD, List.getElem?_take, if_pos (by omega)]
/-- Of fewer bytes than a record is there is none yet. -/
theorem from_less {key n : Int} {b : List Int} (hb : Byt b) (h : ¬ (FromR key n b).2.2 ≤ 0) {k : Int} (k0 : 0 ≤ k) (k1 : k < (FromR key n b).2.2) : (FromR key n (b.take k.toNat)).2.2 = 0 := by
  obtain ⟨h1, h2, h3, h4, h5, h6⟩ := fromr_ok h
  have k1 : k < rd b 0 % 128 + 3 := by rw [h6] at k1; exact k1
  have hr := byt_rd hb 0
  have hl : ((b.take k.toNat).length : Int) = k := by rw [List.length_take]; omega
  unfold FromR
  rw [if_pos h1]
  by_cases c : (b.take k.toNat).length = 0
  · rw [if_pos c]
  · rw [if_neg c]
    have e0 : rd (b.take k.toNat) 0 = rd b 0 := rd_take (by omega) (by omega)
    rw [e0, if_neg (by omega), if_pos (by omega)]
/-- A record is the bytes that it was read from. -/
theorem rec_from {key n : Int} {b : List Int} (hb : Byt b) (h : ¬ (FromR key n b).2.2 ≤ 0) : RecR key n (FromR key n b).1 (FromR key n b).2.1 = b.take (FromR key n b).2.2.toNat := by
  obtain ⟨h1, h2, h3, h4, h5, h6⟩ := fromr_ok h
  have h0 := byt_rd hb 0
  rw [h6]
  show RecR key n (Dat b) (decide (rd b 0 ≥ 128)) = b.take (rd b 0 % 128 + 3).toNat
  have hd : ((Dat b).length : Int) = rd b 0 % 128 := by unfold Dat; rw [List.length_drop, List.length_take]; omega
  have hs : Sok key n (Dat b) := ⟨h1.1, h1.2, by omega⟩
  rw [rec_cons hs, ← h5, hd]
  have hc : rd b 0 % 128 + (if decide (rd b 0 ≥ 128) = true then 128 else 0) = rd b 0 := by
    by_cases c : rd b 0 ≥ 128
    · rw [if_pos (decide_eq_true c)]; omega
    · rw [if_neg (by simpa using c)]; omega
  rw [hc]
  have hi := byt_rd hb (rd b 0 % 128 + 1)
  have hj := byt_rd hb (rd b 0 % 128 + 1 + 1)
  have ht : Tail (Num b (rd b 0 % 128 + 1)) = [rd b (rd b 0 % 128 + 1), rd b (rd b 0 % 128 + 1 + 1)] := by
    unfold Tail Num
    congr 1
    · omega
    · congr 1; omega
  rw [ht]
  cases b with
  | nil => exact absurd rfl h2
  | cons x r =>
    have hx : rd (x :: r) 0 = x := rfl
    unfold Dat
    rw [hx] at *
    have e1 : (x % 128 + 1).toNat = (x % 128).toNat + 1 := by omega
    have e3 : (x % 128 + 3).toNat = (x % 128).toNat + 2 + 1 := by omega
    have hlen : (x :: r).length = r.length + 1 := rfl
    rw [e1, e3, List.take_succ_cons, List.take_succ_cons, List.drop_succ_cons, List.drop_zero]
    congr 1
    have q1 : rd (x :: r) (x % 128 + 1) = rd r (x % 128) := rd_cons (by omega)
    have q2 : rd (x :: r) (x % 128 + 1 + 1) = rd r (x % 128 + 1) := rd_cons (by omega)
    rw [q1, q2, List.take_add_one, List.take_add_one, List.append_assoc]
    congr 1
    have hlt : (x % 128).toNat < r.length := by have h4' : x % 128 + 3 ≤ ((x :: r).length : Int) := h4; rw [hlen] at h4'; omega
    have hlt2 : (x % 128).toNat + 1 < r.length := by have h4' : x % 128 + 3 ≤ ((x :: r).length : Int) := h4; rw [hlen] at h4'; omega
    have g1 : r[(x % 128).toNat]? = some (rd r (x % 128)) := by unfold rd; rw [List.getD_eq_getElem?_getD, List.getElem?_eq_getElem hlt]; rfl
    have g2 : r[(x % 128).toNat + 1]? = some (rd r (x % 128 + 1)) := by unfold rd; rw [List.getD_eq_getElem?_getD, show (x % 128 + 1).toNat = (x % 128).toNat + 1 by omega, List.getElem?_eq_getElem hlt2]; rfl
    rw [g1, g2]; rfl

--all
theorem take_big {l : List Int} (h : l.length > 10) : (l.take 10).length = 10 := by rw [List.length_take]; omega
theorem from_wrong {key n m : Int} {l : List Int} {last : Bool} (h : Sok key m l) (hne : SealR key n l last ≠ SealR key m l last) (t : List Int) : (FromR key n (RecR key m l last ++ t)).2.2 ≤ 0 := by
  apply Decidable.byContradiction
  intro hc
  have hp := rec_parts (last := last) h t
  obtain ⟨_, _, _, _, h5, _⟩ := fromr_ok hc
  rw [hp.1, hp.2.1, hp.2.2.1, hp.2.2.2] at h5
  exact hne h5.symm
theorem openr_bad {key n : Int} {b out : List Int} {d : Nat} (h : (FromR key n b).2.2 ≤ 0) : OpenR key (d + 1) n b out = (out, false) := by
  unfold OpenR; rw [if_pos h]
theorem openr_rec {key n : Int} {l t out : List Int} {d : Nat} (h : Sok key n l) : OpenR key (d + 1) n (RecR key n l false ++ t) out = OpenR key d (n + 1) t (out ++ l) := by
  have hl := rec_len (last := false) h
  rw [show OpenR key (d + 1) n (RecR key n l false ++ t) out = (if (FromR key n (RecR key n l false ++ t)).2.2 ≤ 0 then (out, false) else if (FromR key n (RecR key n l false ++ t)).2.1 = true then (out ++ (FromR key n (RecR key n l false ++ t)).1, decide (((RecR key n l false ++ t).length : Int) = (FromR key n (RecR key n l false ++ t)).2.2)) else OpenR key d (n + 1) ((RecR key n l false ++ t).drop (FromR key n (RecR key n l false ++ t)).2.2.toNat) (out ++ (FromR key n (RecR key n l false ++ t)).1)) from rfl]
  rw [from_rec h, if_neg (show ¬ (l.length : Int) + 3 ≤ 0 by omega), if_neg (show ¬ false = true by simp)]
  show OpenR key d (n + 1) ((RecR key n l false ++ t).drop ((l.length : Int) + 3).toNat) (out ++ l) = _
  have e : ((l.length : Int) + 3).toNat = (RecR key n l false).length := by omega
  rw [e, List.drop_left]
theorem strm_parts {key : Int} (hk : 1 ≤ key ∧ key ≤ 65520) {l : List Int} (h1 : 21 ≤ l.length) (h2 : l.length ≤ 40) : ∃ (x : List Int) (q : Bool) (t : List Int),
    SealedR key l = RecR key 0 (l.take 10) false ++ (RecR key 1 ((l.drop 10).take 10) false ++ (RecR key 2 x q ++ t)) ∧ Sok key 0 (l.take 10) ∧ Sok key 1 ((l.drop 10).take 10) ∧ Sok key 2 x := by
  have e : SealedR key l = RecR key 0 (l.take 10) false ++ (RecR key 1 ((l.drop 10).take 10) false ++ Strm key 999 2 (l.drop 20)) := by
    rw [SealedR, if_pos ⟨hk, by omega⟩]
    show (if l.length > 10 then RecR key 0 (l.take 10) false ++ (if (l.drop 10).length > 10 then RecR key (0 + 1) ((l.drop 10).take 10) false ++ Strm key 999 (0 + 1 + 1) ((l.drop 10).drop 10) else RecR key (0 + 1) (l.drop 10) true) else RecR key 0 l true) = _
    rw [if_pos (by omega), if_pos (by rw [List.length_drop]; omega), List.drop_drop]
    rfl
  have s0 : Sok key 0 (l.take 10) := ⟨hk, by omega, by rw [List.length_take]; omega⟩
  have s1 : Sok key 1 ((l.drop 10).take 10) := ⟨hk, by omega, by rw [List.length_take]; omega⟩
  have e2 : Strm key 999 2 (l.drop 20) = if (l.drop 20).length > 10 then RecR key 2 ((l.drop 20).take 10) false ++ Strm key 998 (2 + 1) ((l.drop 20).drop 10) else RecR key 2 (l.drop 20) true := rfl
  by_cases c : (l.drop 20).length > 10
  · rw [if_pos c] at e2
    exact ⟨_, _, _, by rw [e, e2], s0, s1, ⟨hk, by omega, by rw [List.length_take]; omega⟩⟩
  · rw [if_neg c] at e2
    exact ⟨l.drop 20, true, [], by rw [e, e2, List.append_nil], s0, s1, ⟨hk, by omega, by omega⟩⟩
/-- What is opened of the records, when they stand in each other's place. -/
theorem mixed_parts {key : Int} (hk : 1 ≤ key ∧ key ≤ 65520) {l : List Int} (h1 : 21 ≤ l.length) (h2 : l.length ≤ 40) : 26 ≤ (SealedR key l).length ∧
    OpenedR key ((SealedR key l).take 13 ++ (SealedR key l).take 13 ++ ((SealedR key l).take 26).drop 13 ++ (SealedR key l).drop 26) = (l.take 10, false) ∧
    OpenedR key ((SealedR key l).take 13 ++ ((SealedR key l).take 26).drop 13 ++ ((SealedR key l).take 26).drop 13 ++ (SealedR key l).drop 26) = (l.take 20, false) ∧
    OpenedR key (((SealedR key l).take 26).drop 13 ++ (SealedR key l).drop 26) = ([], false) ∧
    OpenedR key ((SealedR key l).take 13 ++ (SealedR key l).drop 26) = (l.take 10, false) ∧
    OpenedR key (((SealedR key l).take 26).drop 13 ++ (SealedR key l).take 13 ++ (SealedR key l).drop 26) = ([], false) := by
  obtain ⟨x, q, t, e, s0, s1, s2⟩ := strm_parts hk h1 h2
  have l0 : (l.take 10).length = 10 := by rw [List.length_take]; omega
  have l1 : ((l.drop 10).take 10).length = 10 := by rw [List.length_take, List.length_drop]; omega
  have m0 := rec_len (last := false) s0
  have m1 := rec_len (last := false) s1
  rw [l0] at m0; rw [l1] at m1
  have s01 : Sok key 0 ((l.drop 10).take 10) := ⟨hk, by omega, by omega⟩
  have s12 : Sok key 1 x := ⟨hk, by omega, s2.2.2⟩
  have r0 : (SealedR key l).take 13 = RecR key 0 (l.take 10) false := by rw [e, List.take_left' m0]
  have r01 : (SealedR key l).take 26 = RecR key 0 (l.take 10) false ++ RecR key 1 ((l.drop 10).take 10) false := by
    rw [e, ← List.append_assoc, List.take_left' (by rw [List.length_append]; omega)]
  have r1 : ((SealedR key l).take 26).drop 13 = RecR key 1 ((l.drop 10).take 10) false := by rw [r01, List.drop_left' m0]
  have r2 : (SealedR key l).drop 26 = RecR key 2 x q ++ t := by rw [e, ← List.append_assoc, List.drop_left' (by rw [List.length_append]; omega)]
  have up0 : ∀ t', (FromR key 1 (RecR key 0 (l.take 10) false ++ t')).2.2 ≤ 0 := fun t' => from_wrong s0 (seal_num s0) t'
  have up1 : ∀ t', (FromR key 2 (RecR key 1 ((l.drop 10).take 10) false ++ t')).2.2 ≤ 0 := fun t' => from_wrong s1 (seal_num s1) t'
  have dn1 : ∀ t', (FromR key 0 (RecR key 1 ((l.drop 10).take 10) false ++ t')).2.2 ≤ 0 := fun t' => from_wrong s1 (fun h => seal_num s01 h.symm) t'
  have dn2 : ∀ t', (FromR key 1 (RecR key 2 x q ++ t')).2.2 ≤ 0 := fun t' => from_wrong s2 (fun h => seal_num s12 h.symm) t'
  have step : ∀ (n : Int) (y t' out : List Int) (d : Nat), Sok key n y → 2 ≤ d → ∃ d', d = d' + 1 ∧ OpenR key d n (RecR key n y false ++ t') out = OpenR key d' (n + 1) t' (out ++ y) := fun n y t' out d hs hd => by
    obtain ⟨d, rfl⟩ : ∃ j, d = j + 1 := ⟨d - 1, by omega⟩
    exact ⟨d, rfl, openr_rec hs⟩
  have bad : ∀ (n : Int) (b out : List Int) (d : Nat), 1 ≤ d → (FromR key n b).2.2 ≤ 0 → OpenR key d n b out = (out, false) := fun n b out d hd h => by
    obtain ⟨d, rfl⟩ : ∃ j, d = j + 1 := ⟨d - 1, by omega⟩
    exact openr_bad h
  rw [r0, r1, r2]
  have htk : l.take 10 ++ (l.drop 10).take 10 = l.take 20 := by rw [← List.take_add]
  have f1 : ∀ d Z, 2 ≤ d → OpenR key d 0 (RecR key 0 (l.take 10) false ++ (RecR key 0 (l.take 10) false ++ Z)) [] = (l.take 10, false) := fun d Z hd => by
    obtain ⟨d', hd', h⟩ := step 0 (l.take 10) (RecR key 0 (l.take 10) false ++ Z) [] d s0 hd
    rw [h]
    show OpenR key d' 1 _ _ = _
    rw [bad 1 _ _ d' (by omega) (up0 Z), List.nil_append]
  have f2 : ∀ d Z, 3 ≤ d → OpenR key d 0 (RecR key 0 (l.take 10) false ++ (RecR key 1 ((l.drop 10).take 10) false ++ (RecR key 1 ((l.drop 10).take 10) false ++ Z))) [] = (l.take 20, false) := fun d Z hd => by
    obtain ⟨d', hd', h⟩ := step 0 (l.take 10) (RecR key 1 ((l.drop 10).take 10) false ++ (RecR key 1 ((l.drop 10).take 10) false ++ Z)) [] d s0 (by omega)
    rw [h]
    show OpenR key d' 1 _ _ = _
    obtain ⟨d2, hd2, g⟩ := step 1 ((l.drop 10).take 10) (RecR key 1 ((l.drop 10).take 10) false ++ Z) ([] ++ l.take 10) d' s1 (by omega)
    rw [g]
    show OpenR key d2 2 _ _ = _
    rw [bad 2 _ _ d2 (by omega) (up1 Z), List.nil_append, htk]
  have f4 : ∀ d Z, 2 ≤ d → OpenR key d 0 (RecR key 0 (l.take 10) false ++ (RecR key 2 x q ++ Z)) [] = (l.take 10, false) := fun d Z hd => by
    obtain ⟨d', hd', h⟩ := step 0 (l.take 10) (RecR key 2 x q ++ Z) [] d s0 hd
    rw [h]
    show OpenR key d' 1 _ _ = _
    rw [bad 1 _ _ d' (by omega) (dn2 Z), List.nil_append]
  refine ⟨by rw [e]; simp only [List.length_append]; omega, ?_, ?_, ?_, ?_, ?_⟩
  · rw [OpenedR, List.append_assoc, List.append_assoc]
    exact f1 _ _ (by simp only [List.length_append]; omega)
  · rw [OpenedR, List.append_assoc, List.append_assoc]
    exact f2 _ _ (by simp only [List.length_append]; omega)
  · rw [OpenedR, bad _ _ _ _ (by omega) (dn1 _)]
  · rw [OpenedR]
    exact f4 _ _ (by simp only [List.length_append]; omega)
  · rw [OpenedR, List.append_assoc, bad _ _ _ _ (by omega) (dn1 _)]
theorem begins_x (l : List Int) (j : Nat) : laws_begins.f (l.take j) l = some true := by
  unfold laws_begins.f
  rw [if_pos (by rw [List.length_take]; omega), if_pos (by omega), Int.toNat_natCast]
  have e : l.take (l.take j).length = l.take j := by rw [List.length_take, List.take_eq_take_iff]; omega
  rw [e, same_x]; rfl
/-- What is drawn. -/
theorem drawn_x {l : List Int} (hb : Byt l) : Evx (fun k => spec_DrawMixed.f k l) (fun r => (1 ≤ r.1 ∧ r.1 ≤ 65520) ∧ Byt r.2.1 ∧ (21 ≤ r.2.1.length ∧ r.2.1.length ≤ 40) ∧ (0 ≤ r.2.2.1 ∧ r.2.2.1 ≤ 1) ∧ 0 ≤ r.2.2.2 ∧ r.2.2.2 ≤ 1) := by
  unfold spec_DrawMixed.f
  obtain ⟨r, e, hbr, hnr, hp⟩ := open_x hb
  rw [e]; simp only [Option.bind_some, Option.bind_assoc]
  refine Evx.bind (pick_x hbr (by omega) _ _ (by omega) (by omega)) fun r1 p1 => ?_
  obtain ⟨e1, a1, b1, _⟩ := p1
  have b1 := b1 (by omega)
  have w1 : wrap64 (21 + r1.1) = 21 + r1.1 := by unfold wrap64; omega
  rw [w1]
  refine Evx.bind (bytes_x hbr (by omega) _ _ (by omega) (by omega) (by omega) (by omega)) fun r2 p2 => ?_
  obtain ⟨b2, l2, n2, m2⟩ := p2
  refine Evx.bind (pick_x hbr (by omega) _ _ (by omega) (by omega)) fun r3 p3 => ?_
  obtain ⟨e3, a3, b3, _⟩ := p3
  have b3 := b3 (by omega)
  refine Evx.bind (pick_x hbr (by omega) _ _ (by omega) (by omega)) fun r4 p4 => ?_
  obtain ⟨e4, a4, b4, _⟩ := p4
  have b4 := b4 (by omega)
  refine Evx.bind (pick_x hbr (by omega) _ _ (by omega) (by omega)) fun r5 p5 => ?_
  obtain ⟨e5, a5, b5, _⟩ := p5
  have b5 := b5 (by omega)
  refine Evx.now ?_
  have w3 : wrap64 (1 + r3.1) = 1 + r3.1 := by unfold wrap64; omega
  refine ⟨?_, b2, ⟨?_, ?_⟩, ⟨?_, ?_⟩, ?_, ?_⟩ <;> (try simp only [w3]) <;> omega
theorem rounds {α : Type} {g : Nat → Option α} {P : α → Prop} (h : Evx g P) : ∃ k r, g k = some r ∧ P r := by
  obtain ⟨r, hr, hp⟩ := h
  obtain ⟨k, hk⟩ := hr.rounds
  exact ⟨k, r, hk, hp⟩

end Go.Proofs.Ytenphmeikbjimaa.Pure
