/- The plain statement of FnExactClockTook holds; there is no condition beyond those it names. -/
import Derived.Test.YtkhjpkholpclhaaShpFnExactClockTook
set_option linter.unusedVariables false
set_option linter.unusedSimpArgs false
set_option maxRecDepth 100000
namespace Go.Proofs.Ytkhjpkholpclhaa.Pure
open Go.RowKit Go.Proofs.Ytkhjpkholpclhaa.PFnExactClockTook Go.Proofs.YtkhjpkholpclhaaW.PrintWords Go.Proofs.YtkhjpkholpclhaaW.PrintLast Go.Proofs.YtkhjpkholpclhaaW.PrintMore

theorem w64 {x : Int} (h0 : -9223372036854775808 ≤ x) (h1 : x ≤ 9223372036854775807) : wrap64 x = x := by unfold wrap64; omega

/-- It comes to an answer of which P holds. -/
def Evx {α : Type} (g : Nat → Option α) (P : α → Prop) : Prop := ∃ r, Ev g r ∧ P r
theorem Evx.bind {α β : Type} {g : Nat → Option α} {f : Nat → α → Option β} {P : α → Prop} {Q : β → Prop} (h : Evx g P) (k : ∀ a, P a → Evx (fun n => f n a) Q) : Evx (fun n => (g n).bind (f n)) Q := by
  obtain ⟨a, ha, pa⟩ := h
  obtain ⟨r, hr, qr⟩ := k a pa
  exact ⟨r, Ev.bind ha hr, qr⟩
theorem Evx.now {α : Type} {P : α → Prop} {r : α} (h : P r) : Evx (fun _ => some r) P := ⟨r, Ev.now r, h⟩
theorem Evx.pos {α : Type} {c : Prop} [Decidable c] {f g : Nat → Option α} {P : α → Prop} (hc : c) (h : Evx f P) : Evx (fun n => if c then f n else g n) P := by
  simp only [if_pos hc]; exact h
theorem Evx.neg {α : Type} {c : Prop} [Decidable c] {f g : Nat → Option α} {P : α → Prop} (hc : ¬ c) (h : Evx g P) : Evx (fun n => if c then f n else g n) P := by
  simp only [if_neg hc]; exact h
theorem Evx.ite {α : Type} {c : Prop} [Decidable c] {f g : Nat → Option α} {P : α → Prop} (h : c → Evx f P) (k : ¬ c → Evx g P) : Evx (fun n => if c then f n else g n) P := by
  by_cases hc : c
  · exact Evx.pos hc (h hc)
  · exact Evx.neg hc (k hc)
theorem Evx.step {α : Type} {g f : Nat → Option α} {P : α → Prop} (h : ∀ k, g (k + 1) = f k) (k : Evx f P) : Evx g P := by
  obtain ⟨r, hr, p⟩ := k
  exact ⟨r, Ev.step h hr, p⟩
theorem Evx.mono {α : Type} {g : Nat → Option α} {P Q : α → Prop} (h : Evx g P) (k : ∀ r, P r → Q r) : Evx g Q := by
  obtain ⟨r, hr, p⟩ := h
  exact ⟨r, hr, k r p⟩
theorem Evx.law {g : Nat → Option Bool} (h : Evx g (fun r => r = true)) : ∃ k, g k = some true := by
  obtain ⟨r, hr, rfl⟩ := h
  exact hr.rounds
theorem Evx.of {α : Type} {g : Nat → Option α} {r : α} {P : α → Prop} (hg : ∀ k, LeO (g k) (g (k + 1))) {k : Nat} (h : g k = some r) (p : P r) : Evx g P := ⟨r, Ev.of hg h, p⟩

/-- All are bytes. -/
def Byt (l : List Int) : Prop := ∀ x ∈ l, 0 ≤ x ∧ x ≤ 255
theorem byt_wf {l : List Int} (h : ∀ x ∈ l, (Lit.int .u8 x).wf = true) : Byt l := by
  intro x hx
  have := h x hx
  simp [Lit.wf, IntKind.min, IntKind.max, IntKind.signed, IntKind.bits] at this
  omega
theorem byt_rd {l : List Int} (h : Byt l) (i : Int) : 0 ≤ rd l i ∧ rd l i ≤ 255 := by
  unfold rd
  by_cases hi : i.toNat < l.length
  · rw [List.getD_eq_getElem?_getD, List.getElem?_eq_getElem hi]; exact h _ (List.getElem_mem hi)
  · rw [List.getD_eq_getElem?_getD, List.getElem?_eq_none (by omega)]; simp
theorem xor_nn {x y : Int} (hx : 0 ≤ x) (hx1 : x < 4611686018427387904) (hy : 0 ≤ y) (hy1 : y < 4611686018427387904) : 0 ≤ Go.bits .xor .i64 x y := by
  obtain ⟨a, rfl⟩ := Int.eq_ofNat_of_zero_le hx
  obtain ⟨b, rfl⟩ := Int.eq_ofNat_of_zero_le hy
  have ha : a < 2 ^ 62 := by omega
  have hb : b < 2 ^ 62 := by omega
  have hc := Nat.xor_lt_two_pow ha hb
  unfold Go.bits
  simp only [BitVec.ofInt_natCast, BitVec.toNat_xor, BitVec.toNat_ofNat]
  rw [IntKind.wrap_i64]
  have e : IntKind.i64.bits = 64 := rfl
  rw [e, Nat.mod_eq_of_lt (by omega), Nat.mod_eq_of_lt (by omega)]
  omega

theorem impl_in_eq (a b c : Int) : impl_in.f a b c = some (decide (b ≤ a ∧ a ≤ c)) := by
  unfold impl_in.f
  by_cases h : b ≤ a
  · rw [if_pos h]; simp [h]
  · rw [if_neg (by omega)]; simp [h]
theorem spec_in_eq (a b c : Int) : spec_l1In.f a b c = some (decide (b ≤ a ∧ a ≤ c)) := by
  unfold spec_l1In.f
  by_cases h : b ≤ a
  · rw [if_pos h]; simp [h]
  · rw [if_neg (by omega)]; simp [h]

/-- It is a clock. -/
def Cok (m f w : Int) : Prop := (0 ≤ m ∧ m ≤ 80000) ∧ (0 ≤ f ∧ f ≤ 80000) ∧ 4 ≤ w ∧ w ≤ 200
instance (m f w : Int) : Decidable (Cok m f w) := by unfold Cok; infer_instance
theorem impl_ClockOk_eq (m f w : Int) : impl_ClockOk.f m f w = some (decide (Cok m f w)) := by
  unfold impl_ClockOk.f
  simp only [impl_in_eq, Option.bind_some]
  by_cases h : 0 ≤ m ∧ m ≤ 80000
  · rw [if_pos (by simpa using h)]
    by_cases h2 : 0 ≤ f ∧ f ≤ 80000
    · rw [if_pos (by simpa using h2)]; simp [Cok, h, h2]
    · rw [if_neg (by simpa using h2)]; simp [Cok, h, h2]
  · rw [if_neg (by simpa using h)]; simp [Cok, h]
theorem spec_ClockOk_eq (m f w : Int) : spec_ClockOk.f m f w = some (decide (Cok m f w)) := by
  unfold spec_ClockOk.f
  simp only [spec_in_eq, Option.bind_some]
  by_cases h : 0 ≤ m ∧ m ≤ 80000
  · rw [if_pos (by simpa using h)]
    by_cases h2 : 0 ≤ f ∧ f ≤ 80000
    · rw [if_pos (by simpa using h2)]; simp [Cok, h, h2]
    · rw [if_neg (by simpa using h2)]; simp [Cok, h, h2]
  · rw [if_neg (by simpa using h)]; simp [Cok, h]

/-- How long a clock waits. -/
def Wt (m f : Int) : Int := mn 200 (mx 4 (m / 8 + mx 1 f))
/-- A clock after an answer took a time. -/
def Took (m f t : Int) : Int × Int × Int :=
  if m = 0 ∧ f = 0 then (8 * t, 2 * t, Wt (8 * t) (2 * t))
  else (m - m / 8 + t, f - f / 4 + mx (t - m / 8) (m / 8 - t), Wt (m - m / 8 + t) (f - f / 4 + mx (t - m / 8) (m / 8 - t)))
/-- The same, and nothing for what is no clock or no time. -/
def TookR (m f w t : Int) : Int × Int × Int := if Cok m f w ∧ 0 ≤ t ∧ t ≤ 10000 then Took m f t else (0, 0, 0)
theorem td {x : Int} (h : 0 ≤ x) (c : Int) : Int.tdiv x c = x / c := Int.tdiv_eq_ediv_of_nonneg h
theorem wt_rng (m f : Int) : 4 ≤ Wt m f ∧ Wt m f ≤ 200 := by unfold Wt mn mx; omega
theorem took_ok {m f w t : Int} (h : Cok m f w) (h0 : 0 ≤ t) (h1 : t ≤ 10000) : Cok (Took m f t).1 (Took m f t).2.1 (Took m f t).2.2 := by
  unfold Cok at h
  unfold Took
  by_cases c : m = 0 ∧ f = 0
  · rw [if_pos c]
    have := wt_rng (8 * t) (2 * t)
    exact (show Cok (8 * t) (2 * t) (Wt (8 * t) (2 * t)) from by unfold Cok; omega)
  · rw [if_neg c]
    have e : 0 ≤ mx (t - m / 8) (m / 8 - t) ∧ mx (t - m / 8) (m / 8 - t) ≤ 10000 := by unfold mx; omega
    generalize mx (t - m / 8) (m / 8 - t) = o at e
    have := wt_rng (m - m / 8 + t) (f - f / 4 + o)
    exact (show Cok (m - m / 8 + t) (f - f / 4 + o) (Wt (m - m / 8 + t) (f - f / 4 + o)) from by unfold Cok; omega)
theorem tookR_ok {m f w t : Int} (h : Cok m f w) (h0 : 0 ≤ t) (h1 : t ≤ 10000) : TookR m f w t = Took m f t := by unfold TookR; rw [if_pos ⟨h, h0, h1⟩]
theorem tookR_no {m f w t : Int} (h : ¬ (Cok m f w ∧ 0 ≤ t ∧ t ≤ 10000)) : TookR m f w t = (0, 0, 0) := by unfold TookR; rw [if_neg h]

theorem impl_took_j {m f w t : Int} (h : Cok m f w) (h0 : 0 ≤ t) (h1 : t ≤ 10000) : Evx (fun k => impl_ClockTook.j0 k t false m f w) (fun r => r = Took m f t) := by
  unfold Cok at h
  refine Evx.step (fun k => by rw [impl_ClockTook.j0]) (Evx.neg (by simp) ?_)
  rw [td (by omega : 0 ≤ m), td (by omega : 0 ≤ f)]
  have a1 : wrap64 (8 * t) = 8 * t := by unfold wrap64; omega
  have a2 : wrap64 (2 * t) = 2 * t := by unfold wrap64; omega
  have a3 : wrap64 (m / 8) = m / 8 := by unfold wrap64; omega
  have a4 : wrap64 (f / 4) = f / 4 := by unfold wrap64; omega
  have a5 : wrap64 (t - m / 8) = t - m / 8 := by unfold wrap64; omega
  have a6 : wrap64 (-(t - m / 8)) = m / 8 - t := by unfold wrap64; omega
  simp only [a1, a2, a3, a4, a5, a6]
  have e : 0 ≤ mx (t - m / 8) (m / 8 - t) ∧ mx (t - m / 8) (m / 8 - t) ≤ 10000 := by unfold mx; omega
  have second : some (wrap64 (m + (t - m / 8)), wrap64 (f + wrap64 (mx (t - m / 8) (m / 8 - t) - f / 4)), mn 200 (mx 4 (wrap64 (wrap64 (Int.tdiv (wrap64 (m + (t - m / 8))) 8) + mx 1 (wrap64 (f + wrap64 (mx (t - m / 8) (m / 8 - t) - f / 4))))))) = some (m - m / 8 + t, f - f / 4 + mx (t - m / 8) (m / 8 - t), Wt (m - m / 8 + t) (f - f / 4 + mx (t - m / 8) (m / 8 - t))) := by
    generalize mx (t - m / 8) (m / 8 - t) = o at e ⊢
    have b1 : wrap64 (m + (t - m / 8)) = m - m / 8 + t := by unfold wrap64; omega
    have b2 : wrap64 (o - f / 4) = o - f / 4 := by unfold wrap64; omega
    have b3 : wrap64 (f + (o - f / 4)) = f - f / 4 + o := by unfold wrap64; omega
    rw [b1, b2, b3, td (by omega)]
    have b4 : wrap64 ((m - m / 8 + t) / 8) = (m - m / 8 + t) / 8 := by unfold wrap64; omega
    have b5 : wrap64 ((m - m / 8 + t) / 8 + mx 1 (f - f / 4 + o)) = (m - m / 8 + t) / 8 + mx 1 (f - f / 4 + o) := by unfold wrap64 mx; omega
    rw [b4, b5]; rfl
  rw [second]
  unfold Took
  refine Evx.ite (fun hm => Evx.ite (fun hf => Evx.now ?_) (fun hf => Evx.now ?_)) (fun hm => Evx.now ?_)
  · rw [if_pos ⟨hm, hf⟩, td (by omega)]
    have b4 : wrap64 (8 * t / 8) = 8 * t / 8 := by unfold wrap64; omega
    have b5 : wrap64 (8 * t / 8 + mx 1 (2 * t)) = 8 * t / 8 + mx 1 (2 * t) := by unfold wrap64 mx; omega
    rw [b4, b5]; rfl
  · rw [if_neg (fun h => hf h.2)]
  · rw [if_neg (fun h => hm h.1)]
theorem impl_took_x (m f w t : Int) : Evx (fun k => impl_ClockTook.f k m f w t) (fun r => r = TookR m f w t) := by
  unfold impl_ClockTook.f
  simp only [impl_ClockOk_eq, impl_in_eq, Option.bind_some]
  by_cases h : Cok m f w
  · refine Evx.pos (by simpa using h) ?_
    by_cases ht : 0 ≤ t ∧ t ≤ 10000
    · have e : (!decide (0 ≤ t ∧ t ≤ 10000)) = false := by simpa using ht
      rw [e, tookR_ok h ht.1 ht.2]
      exact impl_took_j h ht.1 ht.2
    · have e : (!decide (0 ≤ t ∧ t ≤ 10000)) = true := by rw [decide_eq_false ht]; rfl
      rw [e, tookR_no (fun q => ht q.2)]
      exact Evx.step (fun k => by rw [impl_ClockTook.j0]) (Evx.pos rfl (Evx.now rfl))
  · refine Evx.neg (by simpa using h) ?_
    rw [tookR_no (fun q => h q.1)]
    exact Evx.step (fun k => by rw [impl_ClockTook.j0]) (Evx.pos rfl (Evx.now rfl))

theorem spec_took_j {m f w t : Int} (h : Cok m f w) (h0 : 0 ≤ t) (h1 : t ≤ 10000) : Evx (fun k => spec_ClockTook.j0 k t false m f w) (fun r => r = Took m f t) := by
  unfold Cok at h
  have a1 : wrap64 (8 * t) = 8 * t := by unfold wrap64; omega
  have a2 : wrap64 (2 * t) = 2 * t := by unfold wrap64; omega
  have a3 : wrap64 (m / 8) = m / 8 := by unfold wrap64; omega
  have a4 : wrap64 (f / 4) = f / 4 := by unfold wrap64; omega
  have a5 : wrap64 (t - m / 8) = t - m / 8 := by unfold wrap64; omega
  have a6 : wrap64 (-(t - m / 8)) = m / 8 - t := by unfold wrap64; omega
  have a7 : wrap64 (m - m / 8) = m - m / 8 := by unfold wrap64; omega
  have a8 : wrap64 (m - m / 8 + t) = m - m / 8 + t := by unfold wrap64; omega
  have a9 : wrap64 (f - f / 4) = f - f / 4 := by unfold wrap64; omega
  have b1 : wrap64 (f - f / 4 + (m / 8 - t)) = f - f / 4 + (m / 8 - t) := by unfold wrap64; omega
  have b2 : wrap64 (f - f / 4 + (t - m / 8)) = f - f / 4 + (t - m / 8) := by unfold wrap64; omega
  have wt : ∀ x y : Int, 0 ≤ x → x ≤ 1000000 → -1000000 ≤ y → y ≤ 1000000 → mn (mx (wrap64 (wrap64 (Int.tdiv x 8) + mx y 1)) 4) 200 = Wt x y := by
    intro x y x0 x1 y0 y1
    rw [td x0]
    have e1 : wrap64 (x / 8) = x / 8 := by unfold wrap64; omega
    have e2 : mx y 1 = mx 1 y := by unfold mx; omega
    have e3 : wrap64 (x / 8 + mx 1 y) = x / 8 + mx 1 y := by unfold wrap64 mx; omega
    rw [e1, e2, e3]; unfold Wt
    generalize x / 8 + mx 1 y = z
    unfold mn mx; omega
  refine Evx.step (fun k => by rw [spec_ClockTook.j0]) (Evx.neg (by simp) ?_)
  have last : (m > 0 ∨ f > 0) → Evx (fun k => spec_ClockTook.j1 k t true m f w (wrap64 (8 * t)) (wrap64 (2 * t)) 0) (fun r => r = Took m f t) := by
    intro hg
    refine Evx.step (fun k => by rw [spec_ClockTook.j1]) (Evx.pos rfl ?_)
    rw [td (by omega : 0 ≤ m), td (by omega : 0 ≤ f)]
    simp only [a1, a2, a3, a4, a5, a6, a7, a8, a9, b1, b2]
    unfold Took
    rw [if_neg (show ¬ (m = 0 ∧ f = 0) by omega)]
    refine Evx.ite (fun hl => Evx.now ?_) (fun hl => Evx.now ?_)
    · have e : mx (t - m / 8) (m / 8 - t) = m / 8 - t := by unfold mx; omega
      rw [e, wt _ _ (by omega) (by omega) (by omega) (by omega)]
    · have e : mx (t - m / 8) (m / 8 - t) = t - m / 8 := by unfold mx; omega
      rw [e, wt _ _ (by omega) (by omega) (by omega) (by omega)]
  refine Evx.ite (fun hm => last (.inl hm)) (fun hm => ?_)
  by_cases hf : f > 0
  · have e : decide (f > 0) = true := by simpa using hf
    rw [e]; exact last (.inr hf)
  · have e : decide (f > 0) = false := by simpa using hf
    rw [e]
    refine Evx.step (fun k => by rw [spec_ClockTook.j1]) (Evx.neg (by simp) ?_)
    rw [a1, a2]
    unfold Took
    rw [if_pos (show m = 0 ∧ f = 0 by omega)]
    refine Evx.now ?_
    rw [wt _ _ (by omega) (by omega) (by omega) (by omega)]
theorem spec_took_x (m f w t : Int) : Evx (fun k => spec_ClockTook.f k m f w t) (fun r => r = TookR m f w t) := by
  unfold spec_ClockTook.f
  simp only [spec_ClockOk_eq, spec_in_eq, Option.bind_some]
  by_cases h : Cok m f w
  · refine Evx.pos (by simpa using h) ?_
    by_cases ht : 0 ≤ t ∧ t ≤ 10000
    · have e : (!decide (0 ≤ t ∧ t ≤ 10000)) = false := by simpa using ht
      rw [e, tookR_ok h ht.1 ht.2]
      exact spec_took_j h ht.1 ht.2
    · have e : (!decide (0 ≤ t ∧ t ≤ 10000)) = true := by rw [decide_eq_false ht]; rfl
      rw [e, tookR_no (fun q => ht q.2)]
      exact Evx.step (fun k => by rw [spec_ClockTook.j0]) (Evx.pos rfl (Evx.now rfl))
  · refine Evx.neg (by simpa using h) ?_
    rw [tookR_no (fun q => h q.1)]
    exact Evx.step (fun k => by rw [spec_ClockTook.j0]) (Evx.pos rfl (Evx.now rfl))

theorem FnExactClockTook : Go.Proofs.Ytkhjpkholpclhaa.ShpFnExactClockTook.Pure := by
  intro m f w t _ _ _ _
  suffices h : Evx (fun k => laws_FnExactClockTook.f k m f w t) (fun r => r = true) from Evx.law h
  unfold laws_FnExactClockTook.f laws_toClock.f
  simp only [Option.bind_some]
  refine Evx.bind (spec_took_x _ _ _ _) fun r hr => ?_
  refine Evx.bind (impl_took_x _ _ _ _) fun q hq => ?_
  subst hr; subst hq
  have e : ∀ a b c : Int, laws_eqClock.f a b c a b c = some true := by intro a b c; simp [laws_eqClock.f]
  rw [e]
  simp only [Option.bind_some]
  exact Evx.pos trivial (Evx.now rfl)

end Go.Proofs.Ytkhjpkholpclhaa.Pure
