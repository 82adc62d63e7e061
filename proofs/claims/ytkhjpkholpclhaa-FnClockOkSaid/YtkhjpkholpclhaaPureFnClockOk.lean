/- The law FnClockOk holds: for all bytes, the call of FnClockOk returns true and leaves its argument as it was; there is no condition beyond the given row. -/
import Derived.Test.YtkhjpkholpclhaaMyFnClockOk
import Derived.Test.YtkhjpkholpclhaaWSized
set_option linter.unusedVariables false
set_option linter.unusedSimpArgs false
set_option maxRecDepth 100000
namespace Go.Proofs.Ytkhjpkholpclhaa
/-- The name by which the printed row calls it. -/
abbrev PrintWords.sized_ints := @Go.Proofs.YtkhjpkholpclhaaW.PrintWords.sized_ints
end Go.Proofs.Ytkhjpkholpclhaa
namespace Go.Proofs.Ytkhjpkholpclhaa.Pure
open Go.RowKit Go.Proofs.Ytkhjpkholpclhaa.PFnClockOk Go.Proofs.YtkhjpkholpclhaaW.PrintWords Go.Proofs.YtkhjpkholpclhaaW.PrintLast Go.Proofs.YtkhjpkholpclhaaW.PrintMore

theorem w64 {x : Int} (h0 : -9223372036854775808 ≤ x) (h1 : x ≤ 9223372036854775807) : wrap64 x = x := by unfold wrap64; omega

/-- It comes to an answer of which P holds. -/
def Evx {α : Type} (g : Nat → Option α) (P : α → Prop) : Prop := ∃ r, Ev g r ∧ P r
theorem Evx.bind {α β : Type} {g : Nat → Option α} {f : Nat → α → Option β} {P : α → Prop} {Q : β → Prop} (h : Evx g P) (k : ∀ a, P a → Evx (fun n => f n a) Q) : Evx (fun n => (g n).bind (f n)) Q := by
  obtain ⟨a, ha, pa⟩ := h
  obtain ⟨r, hr, qr⟩ := k a pa
  exact ⟨r, Ev.bind ha hr, qr⟩
theorem Evx.now {α : Type} {P : α → Prop} {r : α} (h : P r) : Evx (fun _ => some r) P := ⟨r, Ev.now r, h⟩
theorem Evx.pos {α : Type} {c : Prop} [Decidable c] {f g : Nat → Option α} {P : α → Prop} (hc : c) (h : Evx f P) : Evx (fun n => if c then f n else g n) P := by
  simp only [if_pos hc]; exact h
theorem Evx.neg {α : Type} {c : Prop} [Decidable c] {f g : Nat → Option α} {P : α → Prop} (hc : ¬ c) (h : Evx g P) : Evx (fun n => if c then f n else g n) P := by
  simp only [if_neg hc]; exact h
theorem Evx.ite {α : Type} {c : Prop} [Decidable c] {f g : Nat → Option α} {P : α → Prop} (h : c → Evx f P) (k : ¬ c → Evx g P) : Evx (fun n => if c then f n else g n) P := by
  by_cases hc : c
  · exact Evx.pos hc (h hc)
  · exact Evx.neg hc (k hc)
theorem Evx.step {α : Type} {g f : Nat → Option α} {P : α → Prop} (h : ∀ k, g (k + 1) = f k) (k : Evx f P) : Evx g P := by
  obtain ⟨r, hr, p⟩ := k
  exact ⟨r, Ev.step h hr, p⟩
theorem Evx.mono {α : Type} {g : Nat → Option α} {P Q : α → Prop} (h : Evx g P) (k : ∀ r, P r → Q r) : Evx g Q := by
  obtain ⟨r, hr, p⟩ := h
  exact ⟨r, hr, k r p⟩
theorem Evx.law {g : Nat → Option Bool} (h : Evx g (fun r => r = true)) : ∃ k, g k = some true := by
  obtain ⟨r, hr, rfl⟩ := h
  exact hr.rounds
theorem Evx.of {α : Type} {g : Nat → Option α} {r : α} {P : α → Prop} (hg : ∀ k, LeO (g k) (g (k + 1))) {k : Nat} (h : g k = some r) (p : P r) : Evx g P := ⟨r, Ev.of hg h, p⟩

/-- All are bytes. -/
def Byt (l : List Int) : Prop := ∀ x ∈ l, 0 ≤ x ∧ x ≤ 255
theorem byt_wf {l : List Int} (h : ∀ x ∈ l, (Lit.int .u8 x).wf = true) : Byt l := by
  intro x hx
  have := h x hx
  simp [Lit.wf, IntKind.min, IntKind.max, IntKind.signed, IntKind.bits] at this
  omega
theorem byt_rd {l : List Int} (h : Byt l) (i : Int) : 0 ≤ rd l i ∧ rd l i ≤ 255 := by
  unfold rd
  by_cases hi : i.toNat < l.length
  · rw [List.getD_eq_getElem?_getD, List.getElem?_eq_getElem hi]; exact h _ (List.getElem_mem hi)
  · rw [List.getD_eq_getElem?_getD, List.getElem?_eq_none (by omega)]; simp
theorem xor_nn {x y : Int} (hx : 0 ≤ x) (hx1 : x < 4611686018427387904) (hy : 0 ≤ y) (hy1 : y < 4611686018427387904) : 0 ≤ Go.bits .xor .i64 x y := by
  obtain ⟨a, rfl⟩ := Int.eq_ofNat_of_zero_le hx
  obtain ⟨b, rfl⟩ := Int.eq_ofNat_of_zero_le hy
  have ha : a < 2 ^ 62 := by omega
  have hb : b < 2 ^ 62 := by omega
  have hc := Nat.xor_lt_two_pow ha hb
  unfold Go.bits
  simp only [BitVec.ofInt_natCast, BitVec.toNat_xor, BitVec.toNat_ofNat]
  rw [IntKind.wrap_i64]
  have e : IntKind.i64.bits = 64 := rfl
  rw [e, Nat.mod_eq_of_lt (by omega), Nat.mod_eq_of_lt (by omega)]
  omega

/-- What a draw of a number below a tells. -/
def Pk (n a : Int) (r : Int × Int) : Prop := r.2 = n + 1 ∧ 0 ≤ r.1 ∧ (1 ≤ a → r.1 < a) ∧ (a < 1 → r.1 = 0)
theorem tmod_rng {x a : Int} (hx : 0 ≤ x) (ha : 1 ≤ a) : 0 ≤ Int.tmod x a ∧ Int.tmod x a < a := by
  rw [Int.tmod_eq_emod_of_nonneg hx]
  exact ⟨Int.emod_nonneg _ (by omega), Int.emod_lt_of_pos _ (by omega)⟩
theorem pick_j {s : List Int} (hs : Byt s) {n a : Int} (h0 : 0 ≤ n) (h1 : n ≤ 1000000000) (ha : 1 ≤ a) (hl : 1 ≤ (s.length : Int)) (hm : (s.length : Int) ≤ 1000000000) :
    Evx (fun k => spec_l20Rd_pick.j0 k a false s (n + 1)) (Pk n a) := by
  refine Evx.step (fun k => by rw [spec_l20Rd_pick.j0]) ?_
  have e1 : wrap64 (n + 1 - 1) = n := by unfold wrap64; omega
  have e2 : wrap64 (n * 7) = n * 7 := by unfold wrap64; omega
  have e3 : wrap64 (n * 7 + 3) = n * 7 + 3 := by unfold wrap64; omega
  have e4 : wrap64 (n * 29) = n * 29 := by unfold wrap64; omega
  simp only [e1, e2, e3, e4]
  refine Evx.neg (by simp) ?_
  refine Evx.ite (fun hlt => ?_) (fun hge => ?_)
  · refine Evx.pos h0 (Evx.neg (by omega) (Evx.now ?_))
    have hb := byt_rd hs n
    have e5 : wrap64 (rd s n) = rd s n := by unfold wrap64; omega
    rw [e5]
    have := tmod_rng hb.1 ha
    exact ⟨rfl, this.1, fun _ => this.2, fun h => by omega⟩
  · refine Evx.neg (by omega) ?_
    have r1 := tmod_rng h0 hl
    have r2 := tmod_rng (x := n * 7 + 3) (by omega) hl
    refine Evx.pos r1.1 (Evx.pos r1.2 (Evx.pos r2.1 (Evx.pos r2.2 (Evx.neg (by omega) (Evx.now ?_)))))
    have b1 := byt_rd hs (Int.tmod n s.length)
    have b2 := byt_rd hs (Int.tmod (n * 7 + 3) s.length)
    generalize rd s (Int.tmod n s.length) = x at b1 ⊢
    generalize rd s (Int.tmod (n * 7 + 3) s.length) = y at b2 ⊢
    have q0 : 0 ≤ Int.tdiv n s.length := Int.tdiv_nonneg h0 (by omega)
    have q1 : Int.tdiv n s.length ≤ n := by
      rw [Int.tdiv_eq_ediv_of_nonneg h0]; exact Int.ediv_le_self _ h0
    generalize Int.tdiv n s.length = q at q0 q1 ⊢
    have f1 : wrap64 x = x := by unfold wrap64; omega
    have f2 : wrap64 y = y := by unfold wrap64; omega
    have f3 : wrap64 (x * 131) = x * 131 := by unfold wrap64; omega
    have f4 : wrap64 (y * 1117) = y * 1117 := by unfold wrap64; omega
    have f5 : wrap64 (x * 131 + y * 1117) = x * 131 + y * 1117 := by unfold wrap64; omega
    have f6 : wrap64 (x * 131 + y * 1117 + n * 29) = x * 131 + y * 1117 + n * 29 := by unfold wrap64; omega
    have f7 : wrap64 q = q := by unfold wrap64; omega
    have f8 : wrap64 (q * 53) = q * 53 := by unfold wrap64; omega
    have f9 : wrap64 (x * 131 + y * 1117 + n * 29 + q * 53) = x * 131 + y * 1117 + n * 29 + q * 53 := by unfold wrap64; omega
    simp only [f1, f2, f3, f4, f5, f6, f7, f8, f9]
    have z0 : 0 ≤ x * 131 + y * 1117 + n * 29 + q * 53 := by omega
    have z1 : x * 131 + y * 1117 + n * 29 + q * 53 < 1000000000000 := by omega
    generalize x * 131 + y * 1117 + n * 29 + q * 53 = z at z0 z1 ⊢
    have f10 : wrap64 (Int.tdiv z 64) = z / 64 := by
      rw [Int.tdiv_eq_ediv_of_nonneg z0]; unfold wrap64; omega
    rw [f10]
    have := tmod_rng (xor_nn (x := z) (y := z / 64) z0 (by omega) (by omega) (by omega)) ha
    exact ⟨rfl, this.1, fun _ => this.2, fun h => by omega⟩
theorem pick_x {s : List Int} (hs : Byt s) (hm : (s.length : Int) ≤ 1000000000) (n a : Int) (h0 : 0 ≤ n) (h1 : n ≤ 1000000000) :
    Evx (fun k => spec_l20Rd_pick.f k s n a) (Pk n a) := by
  unfold spec_l20Rd_pick.f
  have e0 : wrap64 (n + 1) = n + 1 := by unfold wrap64; omega
  rw [e0]
  refine Evx.ite (fun ha => ?_) (fun ha => ?_)
  · refine Evx.step (fun k => by rw [spec_l20Rd_pick.j0]) (Evx.pos rfl (Evx.now ?_))
    exact ⟨rfl, Int.le_refl _, fun h => by omega, fun _ => rfl⟩
  · by_cases hl : (s.length : Int) = 0
    · have e : ((s.length : Int) == 0) = true := beq_iff_eq.mpr hl
      rw [e]
      refine Evx.step (fun k => by rw [spec_l20Rd_pick.j0]) (Evx.pos rfl (Evx.now ?_))
      exact ⟨rfl, Int.le_refl _, fun h => by omega, fun _ => rfl⟩
    · have e : ((s.length : Int) == 0) = false := beq_eq_false_iff_ne.mpr hl
      rw [e]
      exact pick_j hs h0 h1 (by omega) (by omega) hm
/-- What the reader that is opened is. -/
def Opn (r : List Int × Int) : Prop := Byt r.1 ∧ (r.1.length : Int) ≤ 2000 ∧ r.2 = 0
theorem open_x {l : List Int} (hl : Byt l) : ∃ r, spec_l20Open.f l = some r ∧ Opn r := by
  unfold spec_l20Open.f
  by_cases h : (l.length : Int) > 2000
  · rw [if_pos h, if_pos (by omega)]
    exact ⟨_, rfl, fun x hx => hl x (List.mem_of_mem_take hx), by simp only [List.length_take]; omega, rfl⟩
  · rw [if_neg h]
    exact ⟨_, rfl, hl, by simp only []; omega, rfl⟩

theorem alive_x : Evx (fun k => laws_alive.f k) (fun r => r = true) := Evx.of laws_alive.mono (k := 10) (r := true) (by decide +kernel) rfl

theorem impl_in_eq (a b c : Int) : impl_in.f a b c = some (decide (b ≤ a ∧ a ≤ c)) := by
  unfold impl_in.f
  by_cases h : b ≤ a
  · rw [if_pos h]; simp [h]
  · rw [if_neg (by omega)]; simp [h]
theorem spec_in_eq (a b c : Int) : spec_l1In.f a b c = some (decide (b ≤ a ∧ a ≤ c)) := by
  unfold spec_l1In.f
  by_cases h : b ≤ a
  · rw [if_pos h]; simp [h]
  · rw [if_neg (by omega)]; simp [h]

/-- It is a clock. -/
def Cok (m f w : Int) : Prop := (0 ≤ m ∧ m ≤ 80000) ∧ (0 ≤ f ∧ f ≤ 80000) ∧ 4 ≤ w ∧ w ≤ 200
instance (m f w : Int) : Decidable (Cok m f w) := by unfold Cok; infer_instance
theorem impl_ClockOk_eq (m f w : Int) : impl_ClockOk.f m f w = some (decide (Cok m f w)) := by
  unfold impl_ClockOk.f
  simp only [impl_in_eq, Option.bind_some]
  by_cases h : 0 ≤ m ∧ m ≤ 80000
  · rw [if_pos (by simpa using h)]
    by_cases h2 : 0 ≤ f ∧ f ≤ 80000
    · rw [if_pos (by simpa using h2)]; simp [Cok, h, h2]
    · rw [if_neg (by simpa using h2)]; simp [Cok, h, h2]
  · rw [if_neg (by simpa using h)]; simp [Cok, h]
theorem spec_ClockOk_eq (m f w : Int) : spec_ClockOk.f m f w = some (decide (Cok m f w)) := by
  unfold spec_ClockOk.f
  simp only [spec_in_eq, Option.bind_some]
  by_cases h : 0 ≤ m ∧ m ≤ 80000
  · rw [if_pos (by simpa using h)]
    by_cases h2 : 0 ≤ f ∧ f ≤ 80000
    · rw [if_pos (by simpa using h2)]; simp [Cok, h, h2]
    · rw [if_neg (by simpa using h2)]; simp [Cok, h, h2]
  · rw [if_neg (by simpa using h)]; simp [Cok, h]

/-- How long a clock waits. -/
def Wt (m f : Int) : Int := mn 200 (mx 4 (m / 8 + mx 1 f))
/-- A clock after an answer took a time. -/
def Took (m f t : Int) : Int × Int × Int :=
  if m = 0 ∧ f = 0 then (8 * t, 2 * t, Wt (8 * t) (2 * t))
  else (m - m / 8 + t, f - f / 4 + mx (t - m / 8) (m / 8 - t), Wt (m - m / 8 + t) (f - f / 4 + mx (t - m / 8) (m / 8 - t)))
/-- The same, and nothing for what is no clock or no time. -/
def TookR (m f w t : Int) : Int × Int × Int := if Cok m f w ∧ 0 ≤ t ∧ t ≤ 10000 then Took m f t else (0, 0, 0)
theorem td {x : Int} (h : 0 ≤ x) (c : Int) : Int.tdiv x c = x / c := Int.tdiv_eq_ediv_of_nonneg h
theorem wt_rng (m f : Int) : 4 ≤ Wt m f ∧ Wt m f ≤ 200 := by unfold Wt mn mx; omega
theorem took_ok {m f w t : Int} (h : Cok m f w) (h0 : 0 ≤ t) (h1 : t ≤ 10000) : Cok (Took m f t).1 (Took m f t).2.1 (Took m f t).2.2 := by
  unfold Cok at h
  unfold Took
  by_cases c : m = 0 ∧ f = 0
  · rw [if_pos c]
    have := wt_rng (8 * t) (2 * t)
    exact (show Cok (8 * t) (2 * t) (Wt (8 * t) (2 * t)) from by unfold Cok; omega)
  · rw [if_neg c]
    have e : 0 ≤ mx (t - m / 8) (m / 8 - t) ∧ mx (t - m / 8) (m / 8 - t) ≤ 10000 := by unfold mx; omega
    generalize mx (t - m / 8) (m / 8 - t) = o at e
    have := wt_rng (m - m / 8 + t) (f - f / 4 + o)
    exact (show Cok (m - m / 8 + t) (f - f / 4 + o) (Wt (m - m / 8 + t) (f - f / 4 + o)) from by unfold Cok; omega)
theorem tookR_ok {m f w t : Int} (h : Cok m f w) (h0 : 0 ≤ t) (h1 : t ≤ 10000) : TookR m f w t = Took m f t := by unfold TookR; rw [if_pos ⟨h, h0, h1⟩]
theorem tookR_no {m f w t : Int} (h : ¬ (Cok m f w ∧ 0 ≤ t ∧ t ≤ 10000)) : TookR m f w t = (0, 0, 0) := by unfold TookR; rw [if_neg h]

theorem spec_took_j {m f w t : Int} (h : Cok m f w) (h0 : 0 ≤ t) (h1 : t ≤ 10000) : Evx (fun k => spec_ClockTook.j0 k t false m f w) (fun r => r = Took m f t) := by
  unfold Cok at h
  have a1 : wrap64 (8 * t) = 8 * t := by unfold wrap64; omega
  have a2 : wrap64 (2 * t) = 2 * t := by unfold wrap64; omega
  have a3 : wrap64 (m / 8) = m / 8 := by unfold wrap64; omega
  have a4 : wrap64 (f / 4) = f / 4 := by unfold wrap64; omega
  have a5 : wrap64 (t - m / 8) = t - m / 8 := by unfold wrap64; omega
  have a6 : wrap64 (-(t - m / 8)) = m / 8 - t := by unfold wrap64; omega
  have a7 : wrap64 (m - m / 8) = m - m / 8 := by unfold wrap64; omega
  have a8 : wrap64 (m - m / 8 + t) = m - m / 8 + t := by unfold wrap64; omega
  have a9 : wrap64 (f - f / 4) = f - f / 4 := by unfold wrap64; omega
  have b1 : wrap64 (f - f / 4 + (m / 8 - t)) = f - f / 4 + (m / 8 - t) := by unfold wrap64; omega
  have b2 : wrap64 (f - f / 4 + (t - m / 8)) = f - f / 4 + (t - m / 8) := by unfold wrap64; omega
  have wt : ∀ x y : Int, 0 ≤ x → x ≤ 1000000 → -1000000 ≤ y → y ≤ 1000000 → mn (mx (wrap64 (wrap64 (Int.tdiv x 8) + mx y 1)) 4) 200 = Wt x y := by
    intro x y x0 x1 y0 y1
    rw [td x0]
    have e1 : wrap64 (x / 8) = x / 8 := by unfold wrap64; omega
    have e2 : mx y 1 = mx 1 y := by unfold mx; omega
    have e3 : wrap64 (x / 8 + mx 1 y) = x / 8 + mx 1 y := by unfold wrap64 mx; omega
    rw [e1, e2, e3]; unfold Wt
    generalize x / 8 + mx 1 y = z
    unfold mn mx; omega
  refine Evx.step (fun k => by rw [spec_ClockTook.j0]) (Evx.neg (by simp) ?_)
  have last : (m > 0 ∨ f > 0) → Evx (fun k => spec_ClockTook.j1 k t true m f w (wrap64 (8 * t)) (wrap64 (2 * t)) 0) (fun r => r = Took m f t) := by
    intro hg
    refine Evx.step (fun k => by rw [spec_ClockTook.j1]) (Evx.pos rfl ?_)
    rw [td (by omega : 0 ≤ m), td (by omega : 0 ≤ f)]
    simp only [a1, a2, a3, a4, a5, a6, a7, a8, a9, b1, b2]
    unfold Took
    rw [if_neg (show ¬ (m = 0 ∧ f = 0) by omega)]
    refine Evx.ite (fun hl => Evx.now ?_) (fun hl => Evx.now ?_)
    · have e : mx (t - m / 8) (m / 8 - t) = m / 8 - t := by unfold mx; omega
      rw [e, wt _ _ (by omega) (by omega) (by omega) (by omega)]
    · have e : mx (t - m / 8) (m / 8 - t) = t - m / 8 := by unfold mx; omega
      rw [e, wt _ _ (by omega) (by omega) (by omega) (by omega)]
  refine Evx.ite (fun hm => last (.inl hm)) (fun hm => ?_)
  by_cases hf : f > 0
  · have e : decide (f > 0) = true := by simpa using hf
    rw [e]; exact last (.inr hf)
  · have e : decide (f > 0) = false := by simpa using hf
    rw [e]
    refine Evx.step (fun k => by rw [spec_ClockTook.j1]) (Evx.neg (by simp) ?_)
    rw [a1, a2]
    unfold Took
    rw [if_pos (show m = 0 ∧ f = 0 by omega)]
    refine Evx.now ?_
    rw [wt _ _ (by omega) (by omega) (by omega) (by omega)]
theorem spec_took_x (m f w t : Int) : Evx (fun k => spec_ClockTook.f k m f w t) (fun r => r = TookR m f w t) := by
  unfold spec_ClockTook.f
  simp only [spec_ClockOk_eq, spec_in_eq, Option.bind_some]
  by_cases h : Cok m f w
  · refine Evx.pos (by simpa using h) ?_
    by_cases ht : 0 ≤ t ∧ t ≤ 10000
    · have e : (!decide (0 ≤ t ∧ t ≤ 10000)) = false := by simpa using ht
      rw [e, tookR_ok h ht.1 ht.2]
      exact spec_took_j h ht.1 ht.2
    · have e : (!decide (0 ≤ t ∧ t ≤ 10000)) = true := by rw [decide_eq_false ht]; rfl
      rw [e, tookR_no (fun q => ht q.2)]
      exact Evx.step (fun k => by rw [spec_ClockTook.j0]) (Evx.pos rfl (Evx.now rfl))
  · refine Evx.neg (by simpa using h) ?_
    rw [tookR_no (fun q => h q.1)]
    exact Evx.step (fun k => by rw [spec_ClockTook.j0]) (Evx.pos rfl (Evx.now rfl))

theorem odd_x {s : List Int} (hs : Byt s) (hm : (s.length : Int) ≤ 1000000000) (n a : Int) (h0 : 0 ≤ n) (h1 : n ≤ 1000000000) :
    Evx (fun k => spec_l20Rd_odd.f k s n a) (fun r => n ≤ r.2 ∧ r.2 ≤ n + 1) := by
  unfold spec_l20Rd_odd.f
  refine Evx.ite (fun h => ?_) (fun h => ?_)
  · refine Evx.bind (pick_x hs hm n a h0 h1) fun r hr => Evx.now ?_
    obtain ⟨e, _⟩ := hr
    simp only [e]; omega
  · exact Evx.now ⟨Int.le_refl _, by simp only []; omega⟩
theorem late_s (m f w : Int) : ∃ r, spec_ClockLate.f m f w = some r := by
  unfold spec_ClockLate.f
  rw [spec_ClockOk_eq]; simp only [Option.bind_some]
  split <;> exact ⟨_, rfl⟩
theorem clock_l {s : List Int} (hs : Byt s) (hm : (s.length : Int) ≤ 1000000000) (n : Int) (d : Nat) : ∀ (c p m f w : Int), 0 ≤ c → c ≤ 100 → c = d → 0 ≤ p → p ≤ 100000 - 3 * c →
    Evx (fun k => spec_l20Clock.l0 k n c s p m f w) (fun r => 0 ≤ r.2.2.2 ∧ r.2.2.2 ≤ 200000) := by
  induction d with
  | zero =>
    intro c p m f w c0 c1 hd p0 p1
    refine Evx.step (fun k => by rw [spec_l20Clock.l0]) (Evx.neg (by omega) ?_)
    refine Evx.bind (odd_x hs hm _ _ (by omega) (by omega)) fun r1 q1 => ?_
    refine Evx.ite (fun _ => ?_) (fun _ => Evx.now ?_)
    · refine Evx.bind (pick_x hs hm _ _ (by omega) (by omega)) fun r2 q2 => ?_
      obtain ⟨e2, _⟩ := q2
      refine Evx.ite (fun _ => ?_) (fun _ => Evx.ite (fun _ => Evx.now ?_) (fun _ => Evx.now ?_))
      · refine Evx.bind (pick_x hs hm _ _ (by omega) (by omega)) fun r3 q3 => Evx.now ?_
        obtain ⟨e3, _⟩ := q3
        simp only [e3]; omega
      · simp only [e2]; omega
      · simp only [e2]; omega
    · simp only []; omega
  | succ d ih =>
    intro c p m f w c0 c1 hd p0 p1
    refine Evx.step (fun k => by rw [spec_l20Clock.l0]) (Evx.pos (by omega) ?_)
    have e1 : wrap64 (c - 1) = c - 1 := by unfold wrap64; omega
    rw [e1]
    refine Evx.bind (pick_x hs hm _ _ (by omega) (by omega)) fun r1 q1 => ?_
    obtain ⟨e1, _⟩ := q1
    simp only [Option.bind_some]
    refine Evx.bind (pick_x hs hm _ _ (by omega) (by omega)) fun r2 q2 => ?_
    obtain ⟨e2, a2, b2, _⟩ := q2
    have b2 := b2 (by omega)
    refine Evx.pos a2 (Evx.pos (by simp; omega) ?_)
    refine Evx.bind (spec_took_x _ _ _ _) fun r3 _ => ?_
    refine Evx.bind (pick_x hs hm _ _ (by omega) (by omega)) fun r4 q4 => ?_
    obtain ⟨e4, _⟩ := q4
    refine Evx.ite (fun _ => ?_) (fun _ => ?_)
    · obtain ⟨r5, e5⟩ := late_s r3.1 r3.2.1 r3.2.2
      rw [e5]; simp only [Option.bind_some]
      exact ih _ _ _ _ _ (by omega) (by omega) (by omega) (by omega) (by omega)
    · exact ih _ _ _ _ _ (by omega) (by omega) (by omega) (by omega) (by omega)
theorem clock_x {s : List Int} (hs : Byt s) (hm : (s.length : Int) ≤ 1000000000) (n a : Int) (h0 : 0 ≤ n) (h1 : n ≤ 10000) :
    Evx (fun k => spec_l20Clock.f k s n a) (fun r => 0 ≤ r.2.2.2 ∧ r.2.2.2 ≤ 200000) := by
  unfold spec_l20Clock.f
  have i2 : spec_ClockNew.f 0 = some (0, 0, 24) := rfl
  rw [i2]; simp only [Option.bind_some]
  refine Evx.bind (pick_x hs hm _ _ (by omega) (by omega)) fun r1 q1 => ?_
  obtain ⟨e1, a1, b1, _⟩ := q1
  have b1 := b1 (by omega)
  exact clock_l hs hm _ r1.1.toNat _ _ _ _ _ (by omega) (by omega) (by omega) (by omega) (by omega)

theorem draw_x {l : List Int} (hl : Byt l) : Evx (fun k => spec_DrawClockOk.f k l) (fun _ => True) := by
  unfold spec_DrawClockOk.f
  obtain ⟨r, e, hb, hn, hp⟩ := open_x hl
  rw [e]; simp only [Option.bind_some]
  exact Evx.bind (clock_x hb (by omega) _ _ (by omega) (by omega)) fun _ _ => Evx.now trivial
theorem FnClockOk : laws_FnClockOk.Pure := by
  intro l _ hn hw
  refine Evx.law (g := fun k => laws_FnClockOk.f k l) ?_
  unfold laws_FnClockOk.f
  refine Evx.ite (fun _ => Evx.now rfl) (fun _ => ?_)
  refine Evx.bind (draw_x (byt_wf hw)) fun d _ => ?_
  have al := Evx.bind (f := fun _ t => some t) alive_x fun r hr => Evx.now hr
  have i1 : impl_ClockNew.f 0 = some (0, 0, 24) := rfl
  rw [i1]
  simp only [impl_ClockOk_eq, spec_ClockOk_eq, Option.bind_some]
  refine Evx.neg (by simp) ?_
  refine Evx.ite (fun h => ?_) (fun h => Evx.pos (by decide) al)
  have h : Cok d.1 d.2.1 d.2.2 := by simpa using h
  exact Evx.pos (by simp [Cok] at h ⊢; omega) (Evx.pos (by decide) al)

end Go.Proofs.Ytkhjpkholpclhaa.Pure
