/- The law FnPaceLate holds: for all bytes, the call of FnPaceLate returns true and leaves its argument as it was; there is no condition beyond the given row. -/
import Derived.Test.YtkhjpkholpclhaaMyFnPaceLate
import Derived.Test.YtkhjpkholpclhaaWSized
set_option linter.unusedVariables false
set_option linter.unusedSimpArgs false
set_option maxRecDepth 100000
namespace Go.Proofs.Ytkhjpkholpclhaa
/-- The name by which the printed row calls it. -/
abbrev PrintWords.sized_ints := @Go.Proofs.YtkhjpkholpclhaaW.PrintWords.sized_ints
end Go.Proofs.Ytkhjpkholpclhaa
namespace Go.Proofs.Ytkhjpkholpclhaa.Pure
open Go.RowKit Go.Proofs.Ytkhjpkholpclhaa.PFnPaceLate Go.Proofs.YtkhjpkholpclhaaW.PrintWords Go.Proofs.YtkhjpkholpclhaaW.PrintLast Go.Proofs.YtkhjpkholpclhaaW.PrintMore

theorem w64 {x : Int} (h0 : -9223372036854775808 ≤ x) (h1 : x ≤ 9223372036854775807) : wrap64 x = x := by unfold wrap64; omega

/-- It comes to an answer of which P holds. -/
def Evx {α : Type} (g : Nat → Option α) (P : α → Prop) : Prop := ∃ r, Ev g r ∧ P r
theorem Evx.bind {α β : Type} {g : Nat → Option α} {f : Nat → α → Option β} {P : α → Prop} {Q : β → Prop} (h : Evx g P) (k : ∀ a, P a → Evx (fun n => f n a) Q) : Evx (fun n => (g n).bind (f n)) Q := by
  obtain ⟨a, ha, pa⟩ := h
  obtain ⟨r, hr, qr⟩ := k a pa
  exact ⟨r, Ev.bind ha hr, qr⟩
theorem Evx.now {α : Type} {P : α → Prop} {r : α} (h : P r) : Evx (fun _ => some r) P := ⟨r, Ev.now r, h⟩
theorem Evx.pos {α : Type} {c : Prop} [Decidable c] {f g : Nat → Option α} {P : α → Prop} (hc : c) (h : Evx f P) : Evx (fun n => if c then f n else g n) P := by
  simp only [if_pos hc]; exact h
theorem Evx.neg {α : Type} {c : Prop} [Decidable c] {f g : Nat → Option α} {P : α → Prop} (hc : ¬ c) (h : Evx g P) : Evx (fun n => if c then f n else g n) P := by
  simp only [if_neg hc]; exact h
theorem Evx.ite {α : Type} {c : Prop} [Decidable c] {f g : Nat → Option α} {P : α → Prop} (h : c → Evx f P) (k : ¬ c → Evx g P) : Evx (fun n => if c then f n else g n) P := by
  by_cases hc : c
  · exact Evx.pos hc (h hc)
  · exact Evx.neg hc (k hc)
theorem Evx.step {α : Type} {g f : Nat → Option α} {P : α → Prop} (h : ∀ k, g (k + 1) = f k) (k : Evx f P) : Evx g P := by
  obtain ⟨r, hr, p⟩ := k
  exact ⟨r, Ev.step h hr, p⟩
theorem Evx.mono {α : Type} {g : Nat → Option α} {P Q : α → Prop} (h : Evx g P) (k : ∀ r, P r → Q r) : Evx g Q := by
  obtain ⟨r, hr, p⟩ := h
  exact ⟨r, hr, k r p⟩
theorem Evx.law {g : Nat → Option Bool} (h : Evx g (fun r => r = true)) : ∃ k, g k = some true := by
  obtain ⟨r, hr, rfl⟩ := h
  exact hr.rounds
theorem Evx.of {α : Type} {g : Nat → Option α} {r : α} {P : α → Prop} (hg : ∀ k, LeO (g k) (g (k + 1))) {k : Nat} (h : g k = some r) (p : P r) : Evx g P := ⟨r, Ev.of hg h, p⟩

/-- All are bytes. -/
def Byt (l : List Int) : Prop := ∀ x ∈ l, 0 ≤ x ∧ x ≤ 255
theorem byt_wf {l : List Int} (h : ∀ x ∈ l, (Lit.int .u8 x).wf = true) : Byt l := by
  intro x hx
  have := h x hx
  simp [Lit.wf, IntKind.min, IntKind.max, IntKind.signed, IntKind.bits] at this
  omega
theorem byt_rd {l : List Int} (h : Byt l) (i : Int) : 0 ≤ rd l i ∧ rd l i ≤ 255 := by
  unfold rd
  by_cases hi : i.toNat < l.length
  · rw [List.getD_eq_getElem?_getD, List.getElem?_eq_getElem hi]; exact h _ (List.getElem_mem hi)
  · rw [List.getD_eq_getElem?_getD, List.getElem?_eq_none (by omega)]; simp
theorem xor_nn {x y : Int} (hx : 0 ≤ x) (hx1 : x < 4611686018427387904) (hy : 0 ≤ y) (hy1 : y < 4611686018427387904) : 0 ≤ Go.bits .xor .i64 x y := by
  obtain ⟨a, rfl⟩ := Int.eq_ofNat_of_zero_le hx
  obtain ⟨b, rfl⟩ := Int.eq_ofNat_of_zero_le hy
  have ha : a < 2 ^ 62 := by omega
  have hb : b < 2 ^ 62 := by omega
  have hc := Nat.xor_lt_two_pow ha hb
  unfold Go.bits
  simp only [BitVec.ofInt_natCast, BitVec.toNat_xor, BitVec.toNat_ofNat]
  rw [IntKind.wrap_i64]
  have e : IntKind.i64.bits = 64 := rfl
  rw [e, Nat.mod_eq_of_lt (by omega), Nat.mod_eq_of_lt (by omega)]
  omega

/-- What a draw of a number below a tells. -/
def Pk (n a : Int) (r : Int × Int) : Prop := r.2 = n + 1 ∧ 0 ≤ r.1 ∧ (1 ≤ a → r.1 < a) ∧ (a < 1 → r.1 = 0)
theorem tmod_rng {x a : Int} (hx : 0 ≤ x) (ha : 1 ≤ a) : 0 ≤ Int.tmod x a ∧ Int.tmod x a < a := by
  rw [Int.tmod_eq_emod_of_nonneg hx]
  exact ⟨Int.emod_nonneg _ (by omega), Int.emod_lt_of_pos _ (by omega)⟩
theorem pick_j {s : List Int} (hs : Byt s) {n a : Int} (h0 : 0 ≤ n) (h1 : n ≤ 1000000000) (ha : 1 ≤ a) (hl : 1 ≤ (s.length : Int)) (hm : (s.length : Int) ≤ 1000000000) :
    Evx (fun k => spec_l20Rd_pick.j0 k a false s (n + 1)) (Pk n a) := by
  refine Evx.step (fun k => by rw [spec_l20Rd_pick.j0]) ?_
  have e1 : wrap64 (n + 1 - 1) = n := by unfold wrap64; omega
  have e2 : wrap64 (n * 7) = n * 7 := by unfold wrap64; omega
  have e3 : wrap64 (n * 7 + 3) = n * 7 + 3 := by unfold wrap64; omega
  have e4 : wrap64 (n * 29) = n * 29 := by unfold wrap64; omega
  simp only [e1, e2, e3, e4]
  refine Evx.neg (by simp) ?_
  refine Evx.ite (fun hlt => ?_) (fun hge => ?_)
  · refine Evx.pos h0 (Evx.neg (by omega) (Evx.now ?_))
    have hb := byt_rd hs n
    have e5 : wrap64 (rd s n) = rd s n := by unfold wrap64; omega
    rw [e5]
    have := tmod_rng hb.1 ha
    exact ⟨rfl, this.1, fun _ => this.2, fun h => by omega⟩
  · refine Evx.neg (by omega) ?_
    have r1 := tmod_rng h0 hl
    have r2 := tmod_rng (x := n * 7 + 3) (by omega) hl
    refine Evx.pos r1.1 (Evx.pos r1.2 (Evx.pos r2.1 (Evx.pos r2.2 (Evx.neg (by omega) (Evx.now ?_)))))
    have b1 := byt_rd hs (Int.tmod n s.length)
    have b2 := byt_rd hs (Int.tmod (n * 7 + 3) s.length)
    generalize rd s (Int.tmod n s.length) = x at b1 ⊢
    generalize rd s (Int.tmod (n * 7 + 3) s.length) = y at b2 ⊢
    have q0 : 0 ≤ Int.tdiv n s.length := Int.tdiv_nonneg h0 (by omega)
    have q1 : Int.tdiv n s.length ≤ n := by
      rw [Int.tdiv_eq_ediv_of_nonneg h0]; exact Int.ediv_le_self _ h0
    generalize Int.tdiv n s.length = q at q0 q1 ⊢
    have f1 : wrap64 x = x := by unfold wrap64; omega
    have f2 : wrap64 y = y := by unfold wrap64; omega
    have f3 : wrap64 (x * 131) = x * 131 := by unfold wrap64; omega
    have f4 : wrap64 (y * 1117) = y * 1117 := by unfold wrap64; omega
    have f5 : wrap64 (x * 131 + y * 1117) = x * 131 + y * 1117 := by unfold wrap64; omega
    have f6 : wrap64 (x * 131 + y * 1117 + n * 29) = x * 131 + y * 1117 + n * 29 := by unfold wrap64; omega
    have f7 : wrap64 q = q := by unfold wrap64; omega
    have f8 : wrap64 (q * 53) = q * 53 := by unfold wrap64; omega
    have f9 : wrap64 (x * 131 + y * 1117 + n * 29 + q * 53) = x * 131 + y * 1117 + n * 29 + q * 53 := by unfold wrap64; omega
    simp only [f1, f2, f3, f4, f5, f6, f7, f8, f9]
    have z0 : 0 ≤ x * 131 + y * 1117 + n * 29 + q * 53 := by omega
    have z1 : x * 131 + y * 1117 + n * 29 + q * 53 < 1000000000000 := by omega
    generalize x * 131 + y * 1117 + n * 29 + q * 53 = z at z0 z1 ⊢
    have f10 : wrap64 (Int.tdiv z 64) = z / 64 := by
      rw [Int.tdiv_eq_ediv_of_nonneg z0]; unfold wrap64; omega
    rw [f10]
    have := tmod_rng (xor_nn (x := z) (y := z / 64) z0 (by omega) (by omega) (by omega)) ha
    exact ⟨rfl, this.1, fun _ => this.2, fun h => by omega⟩
theorem pick_x {s : List Int} (hs : Byt s) (hm : (s.length : Int) ≤ 1000000000) (n a : Int) (h0 : 0 ≤ n) (h1 : n ≤ 1000000000) :
    Evx (fun k => spec_l20Rd_pick.f k s n a) (Pk n a) := by
  unfold spec_l20Rd_pick.f
  have e0 : wrap64 (n + 1) = n + 1 := by unfold wrap64; omega
  rw [e0]
  refine Evx.ite (fun ha => ?_) (fun ha => ?_)
  · refine Evx.step (fun k => by rw [spec_l20Rd_pick.j0]) (Evx.pos rfl (Evx.now ?_))
    exact ⟨rfl, Int.le_refl _, fun h => by omega, fun _ => rfl⟩
  · by_cases hl : (s.length : Int) = 0
    · have e : ((s.length : Int) == 0) = true := beq_iff_eq.mpr hl
      rw [e]
      refine Evx.step (fun k => by rw [spec_l20Rd_pick.j0]) (Evx.pos rfl (Evx.now ?_))
      exact ⟨rfl, Int.le_refl _, fun h => by omega, fun _ => rfl⟩
    · have e : ((s.length : Int) == 0) = false := beq_eq_false_iff_ne.mpr hl
      rw [e]
      exact pick_j hs h0 h1 (by omega) (by omega) hm
/-- What the reader that is opened is. -/
def Opn (r : List Int × Int) : Prop := Byt r.1 ∧ (r.1.length : Int) ≤ 2000 ∧ r.2 = 0
theorem open_x {l : List Int} (hl : Byt l) : ∃ r, spec_l20Open.f l = some r ∧ Opn r := by
  unfold spec_l20Open.f
  by_cases h : (l.length : Int) > 2000
  · rw [if_pos h, if_pos (by omega)]
    exact ⟨_, rfl, fun x hx => hl x (List.mem_of_mem_take hx), by simp only [List.length_take]; omega, rfl⟩
  · rw [if_neg h]
    exact ⟨_, rfl, hl, by simp only []; omega, rfl⟩

theorem alive_x : Evx (fun k => laws_alive.f k) (fun r => r = true) := Evx.of laws_alive.mono (k := 10) (r := true) (by decide +kernel) rfl

theorem impl_in_eq (a b c : Int) : impl_in.f a b c = some (decide (b ≤ a ∧ a ≤ c)) := by
  unfold impl_in.f
  by_cases h : b ≤ a
  · rw [if_pos h]; simp [h]
  · rw [if_neg (by omega)]; simp [h]
theorem spec_in_eq (a b c : Int) : spec_l1In.f a b c = some (decide (b ≤ a ∧ a ≤ c)) := by
  unfold spec_l1In.f
  by_cases h : b ≤ a
  · rw [if_pos h]; simp [h]
  · rw [if_neg (by omega)]; simp [h]
/-- It is a pace. -/
def Pok (w l r : Int) : Prop := (1 ≤ w ∧ w ≤ 64) ∧ (2 ≤ l ∧ l ≤ 64) ∧ 0 ≤ r ∧ r ≤ w - 1
instance (w l r : Int) : Decidable (Pok w l r) := by unfold Pok; infer_instance
theorem impl_PaceOk_eq (w l r : Int) : impl_PaceOk.f w l r = some (decide (Pok w l r)) := by
  unfold impl_PaceOk.f
  simp only [impl_in_eq, Option.bind_some]
  by_cases h : 1 ≤ w ∧ w ≤ 64
  · have e : wrap64 (w - 1) = w - 1 := by unfold wrap64; omega
    rw [if_pos (by simpa using h), e]
    by_cases h2 : 2 ≤ l ∧ l ≤ 64
    · rw [if_pos (by simpa using h2)]; simp [Pok, h, h2]
    · rw [if_neg (by simpa using h2)]; simp [Pok, h, h2]
  · rw [if_neg (by simpa using h)]; simp [Pok, h]
theorem spec_PaceOk_eq (w l r : Int) : spec_PaceOk.f w l r = some (decide (Pok w l r)) := by
  unfold spec_PaceOk.f
  simp only [spec_in_eq, Option.bind_some]
  by_cases h : 1 ≤ w ∧ w ≤ 64
  · have e : wrap64 (w - 1) = w - 1 := by unfold wrap64; omega
    rw [if_pos (by simpa using h), e]
    by_cases h2 : 2 ≤ l ∧ l ≤ 64
    · rw [if_pos (by simpa using h2)]; simp [Pok, h, h2]
    · rw [if_neg (by simpa using h2)]; simp [Pok, h, h2]
  · rw [if_neg (by simpa using h)]; simp [Pok, h]

/-- Some place of a reader, not far on. -/
def At (m n : Int) : Prop := 0 ≤ n ∧ n ≤ m
theorem odd_x {s : List Int} (hs : Byt s) (hm : (s.length : Int) ≤ 1000000000) (n a : Int) (h0 : 0 ≤ n) (h1 : n ≤ 1000000000) :
    Evx (fun k => spec_l20Rd_odd.f k s n a) (fun r => n ≤ r.2 ∧ r.2 ≤ n + 1) := by
  unfold spec_l20Rd_odd.f
  refine Evx.ite (fun h => ?_) (fun h => ?_)
  · refine Evx.bind (pick_x hs hm n a h0 h1) fun r hr => Evx.now ?_
    obtain ⟨e, _⟩ := hr
    simp only [e]; omega
  · exact Evx.now ⟨Int.le_refl _, by simp only []; omega⟩
theorem pace_x {s : List Int} (hs : Byt s) (hm : (s.length : Int) ≤ 1000000000) (n a : Int) (h0 : 0 ≤ n) (h1 : n ≤ 1000000) :
    Evx (fun k => spec_l20Pace.f k s n a) (fun _ => True) := by
  unfold spec_l20Pace.f
  refine Evx.bind (pick_x hs hm _ _ (by omega) (by omega)) fun r1 p1 => ?_
  obtain ⟨e1, _⟩ := p1
  refine Evx.bind (pick_x hs hm _ _ (by omega) (by omega)) fun r2 p2 => ?_
  obtain ⟨e2, _⟩ := p2
  refine Evx.bind (pick_x hs hm _ _ (by omega) (by omega)) fun r3 p3 => ?_
  obtain ⟨e3, _⟩ := p3
  refine Evx.bind (odd_x hs hm _ _ (by omega) (by omega)) fun r4 p4 => ?_
  refine Evx.ite (fun _ => ?_) (fun _ => Evx.now trivial)
  refine Evx.bind (pick_x hs hm _ _ (by omega) (by omega)) fun r5 p5 => ?_
  obtain ⟨e5, _⟩ := p5
  refine Evx.ite (fun _ => ?_) (fun _ => Evx.ite (fun _ => ?_) (fun _ => Evx.now trivial))
  · exact Evx.bind (pick_x hs hm _ _ (by omega) (by omega)) fun r6 p6 => Evx.now trivial
  · exact Evx.bind (pick_x hs hm _ _ (by omega) (by omega)) fun r6 p6 => Evx.now trivial

/-- A pace after one more was heard. -/
def Heard (w l r : Int) : Int × Int × Int := if w < l then (w + 1, l, 0) else if r + 1 < w then (w, l, r + 1) else (mn 64 (w + 1), l, 0)
theorem impl_PaceHeard_eq {w l r : Int} (h : Pok w l r) : impl_PaceHeard.f w l r = some (Heard w l r) := by
  unfold impl_PaceHeard.f
  rw [impl_PaceOk_eq]; simp only [Option.bind_some]
  rw [if_pos (by simpa using h)]
  unfold Pok at h
  have e1 : wrap64 (w + 1) = w + 1 := by unfold wrap64; omega
  have e2 : wrap64 (r + 1) = r + 1 := by unfold wrap64; omega
  rw [e1, e2]; unfold Heard
  by_cases c : w < l
  · rw [if_pos c, if_pos c]
  · rw [if_neg c, if_neg c]
    by_cases d : r + 1 < w
    · rw [if_pos d, if_pos d]
    · rw [if_neg d, if_neg d]
theorem impl_PaceHeard_no {w l r : Int} (h : ¬ Pok w l r) : impl_PaceHeard.f w l r = some (0, 0, 0) := by
  unfold impl_PaceHeard.f
  rw [impl_PaceOk_eq]; simp only [Option.bind_some]
  rw [if_neg (by simpa using h)]
theorem heard_ok {w l r : Int} (h : Pok w l r) : Pok (Heard w l r).1 (Heard w l r).2.1 (Heard w l r).2.2 ∧ ((Heard w l r).1 = w ∨ (Heard w l r).1 = w + 1) := by
  unfold Pok at h
  unfold Heard
  by_cases c : w < l
  · rw [if_pos c]
    exact ⟨(show Pok (w + 1) l 0 from by unfold Pok; omega), .inr rfl⟩
  · rw [if_neg c]
    by_cases d : r + 1 < w
    · rw [if_pos d]
      exact ⟨(show Pok w l (r + 1) from by unfold Pok; omega), .inl rfl⟩
    · rw [if_neg d]
      have m : mn 64 (w + 1) = w ∨ mn 64 (w + 1) = w + 1 := by unfold mn; omega
      have m2 : mn 64 (w + 1) ≤ 64 := by unfold mn; omega
      exact ⟨(show Pok (mn 64 (w + 1)) l 0 from by unfold Pok; omega), m⟩

/-- Half of a window, at least two. -/
def Half (w : Int) : Int := mx 2 (w / 2)
theorem impl_half {w : Int} (h0 : 1 ≤ w) (h1 : w ≤ 64) : mx 2 (wrap64 (Int.tdiv w 2)) = Half w := by
  rw [Int.tdiv_eq_ediv_of_nonneg (by omega)]
  have e : wrap64 (w / 2) = w / 2 := by unfold wrap64; omega
  rw [e]; rfl
theorem spec_half {w : Int} (h0 : 1 ≤ w) (h1 : w ≤ 64) : mx (wrap64 (Int.tdiv w 2)) 2 = Half w := by
  rw [Int.tdiv_eq_ediv_of_nonneg (by omega)]
  have e : wrap64 (w / 2) = w / 2 := by unfold wrap64; omega
  rw [e]; unfold Half mx; omega
theorem half_ok {w : Int} (h0 : 1 ≤ w) (h1 : w ≤ 64) : 2 ≤ Half w ∧ Half w ≤ 32 := by unfold Half mx; omega

theorem draw_x {l : List Int} (hl : Byt l) : Evx (fun k => spec_DrawPaceLate.f k l) (fun _ => True) := by
  unfold spec_DrawPaceLate.f
  obtain ⟨r, e, hb, hn, hp⟩ := open_x hl
  rw [e]; simp only [Option.bind_some]
  exact Evx.bind (pace_x hb (by omega) _ _ (by omega) (by omega)) fun _ _ => Evx.now trivial
theorem impl_PaceLate_eq {w l r : Int} (h : Pok w l r) : impl_PaceLate.f w l r = some (1, Half w, 0) := by
  unfold impl_PaceLate.f
  rw [impl_PaceOk_eq]; simp only [Option.bind_some]
  rw [if_pos (by simpa using h), impl_half h.1.1 h.1.2]
theorem impl_PaceLate_no {w l r : Int} (h : ¬ Pok w l r) : impl_PaceLate.f w l r = some (0, 0, 0) := by
  unfold impl_PaceLate.f
  rw [impl_PaceOk_eq]; simp only [Option.bind_some]
  rw [if_neg (by simpa using h)]
theorem spec_PaceLate_eq {w l r : Int} (h : Pok w l r) : spec_PaceLate.f w l r = some (1, Half w, 0) := by
  unfold spec_PaceLate.f
  rw [spec_PaceOk_eq]; simp only [Option.bind_some]
  rw [if_pos (by simpa using h), spec_half h.1.1 h.1.2]
theorem spec_PaceLate_no {w l r : Int} (h : ¬ Pok w l r) : spec_PaceLate.f w l r = some (0, 0, 0) := by
  unfold spec_PaceLate.f
  rw [spec_PaceOk_eq]; simp only [Option.bind_some]
  rw [if_neg (by simpa using h)]
theorem loop_x {w l r : Int} (h : Pok w l r) (d : Nat) : ∀ i : Int, 1 ≤ i → i ≤ Half w → Half w - i = d →
    Evx (fun k => laws_FnPaceLate.l0 k i w l r 1 (Half w) 0 i (Half w) 0) (fun r => r = true) := by
  have hh := half_ok h.1.1 h.1.2
  have es := spec_half h.1.1 h.1.2
  induction d with
  | zero =>
    intro i h0 h1 hd
    refine Evx.step (fun k => by rw [laws_FnPaceLate.l0]) ?_
    rw [es, impl_PaceOk_eq]; simp only [Option.bind_some]
    refine Evx.neg (by omega) (Evx.pos (by simp [Pok]; omega) (Evx.pos trivial (Evx.now ?_)))
    exact beq_iff_eq.mpr (by omega)
  | succ d ih =>
    intro i h0 h1 hd
    refine Evx.step (fun k => by rw [laws_FnPaceLate.l0]) ?_
    have hp : Pok i (Half w) 0 := by unfold Pok; omega
    have e1 : wrap64 (i + 1) = i + 1 := by unfold wrap64; omega
    have e : Heard i (Half w) 0 = (i + 1, Half w, 0) := by unfold Heard; rw [if_pos (by omega)]
    rw [es, impl_PaceHeard_eq hp, e]; simp only [Option.bind_some, e1]
    exact Evx.pos (by omega) (ih (i + 1) (by omega) (by omega) (by omega))
theorem FnPaceLate : laws_FnPaceLate.Pure := by
  intro l _ hn hw
  refine Evx.law (g := fun k => laws_FnPaceLate.f k l) ?_
  unfold laws_FnPaceLate.f
  refine Evx.ite (fun _ => Evx.now rfl) (fun _ => ?_)
  refine Evx.bind (draw_x (byt_wf hw)) fun d _ => ?_
  have al := Evx.bind (f := fun _ t => some t) alive_x fun r hr => Evx.now hr
  by_cases h : Pok d.1 d.2.1 d.2.2
  · rw [impl_PaceLate_eq h, spec_PaceLate_eq h, impl_PaceOk_eq]; simp only [Option.bind_some]
    refine Evx.neg (by simp) (Evx.pos (by simpa using h) ?_)
    have hh := half_ok h.1.1 h.1.2
    exact loop_x h (Half d.1 - 1).toNat 1 (by omega) (by omega) (by omega)
  · rw [impl_PaceLate_no h, spec_PaceLate_no h, impl_PaceOk_eq]; simp only [Option.bind_some]
    exact Evx.neg (by simp) (Evx.neg (by simpa using h) (Evx.pos (by simp) al))

end Go.Proofs.Ytkhjpkholpclhaa.Pure
