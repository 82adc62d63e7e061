/- The law FnWatchOk holds: for all bytes, the call of FnWatchOk returns true and leaves its argument as it was; there is no condition beyond the given row. -/
import Derived.Test.YtkhjpkholpclhaaPFnWatchOkx3
import Derived.Test.YtkhjpkholpclhaaWSized
set_option linter.unusedVariables false
set_option linter.unusedSimpArgs false
set_option maxRecDepth 100000
namespace Go.Proofs.Ytkhjpkholpclhaa
/-- The name by which the printed row calls it. -/
abbrev PrintWords.sized_ints := @Go.Proofs.YtkhjpkholpclhaaW.PrintWords.sized_ints
end Go.Proofs.Ytkhjpkholpclhaa
namespace Go.Proofs.Ytkhjpkholpclhaa.Pure
open Go.RowKit Go.Proofs.Ytkhjpkholpclhaa.PFnWatchOk Go.Proofs.YtkhjpkholpclhaaW.PrintWords Go.Proofs.YtkhjpkholpclhaaW.PrintLast Go.Proofs.YtkhjpkholpclhaaW.PrintMore

theorem w64 {x : Int} (h0 : -9223372036854775808 ≤ x) (h1 : x ≤ 9223372036854775807) : wrap64 x = x := by unfold wrap64; omega

/-- It comes to an answer of which P holds. -/
def Evx {α : Type} (g : Nat → Option α) (P : α → Prop) : Prop := ∃ r, Ev g r ∧ P r
theorem Evx.bind {α β : Type} {g : Nat → Option α} {f : Nat → α → Option β} {P : α → Prop} {Q : β → Prop} (h : Evx g P) (k : ∀ a, P a → Evx (fun n => f n a) Q) : Evx (fun n => (g n).bind (f n)) Q := by
  obtain ⟨a, ha, pa⟩ := h
  obtain ⟨r, hr, qr⟩ := k a pa
  exact ⟨r, Ev.bind ha hr, qr⟩
theorem Evx.now {α : Type} {P : α → Prop} {r : α} (h : P r) : Evx (fun _ => some r) P := ⟨r, Ev.now r, h⟩
theorem Evx.pos {α : Type} {c : Prop} [Decidable c] {f g : Nat → Option α} {P : α → Prop} (hc : c) (h : Evx f P) : Evx (fun n => if c then f n else g n) P := by
  simp only [if_pos hc]; exact h
theorem Evx.neg {α : Type} {c : Prop} [Decidable c] {f g : Nat → Option α} {P : α → Prop} (hc : ¬ c) (h : Evx g P) : Evx (fun n => if c then f n else g n) P := by
  simp only [if_neg hc]; exact h
theorem Evx.ite {α : Type} {c : Prop} [Decidable c] {f g : Nat → Option α} {P : α → Prop} (h : c → Evx f P) (k : ¬ c → Evx g P) : Evx (fun n => if c then f n else g n) P := by
  by_cases hc : c
  · exact Evx.pos hc (h hc)
  · exact Evx.neg hc (k hc)
theorem Evx.step {α : Type} {g f : Nat → Option α} {P : α → Prop} (h : ∀ k, g (k + 1) = f k) (k : Evx f P) : Evx g P := by
  obtain ⟨r, hr, p⟩ := k
  exact ⟨r, Ev.step h hr, p⟩
theorem Evx.mono {α : Type} {g : Nat → Option α} {P Q : α → Prop} (h : Evx g P) (k : ∀ r, P r → Q r) : Evx g Q := by
  obtain ⟨r, hr, p⟩ := h
  exact ⟨r, hr, k r p⟩
theorem Evx.law {g : Nat → Option Bool} (h : Evx g (fun r => r = true)) : ∃ k, g k = some true := by
  obtain ⟨r, hr, rfl⟩ := h
  exact hr.rounds
theorem Evx.of {α : Type} {g : Nat → Option α} {r : α} {P : α → Prop} (hg : ∀ k, LeO (g k) (g (k + 1))) {k : Nat} (h : g k = some r) (p : P r) : Evx g P := ⟨r, Ev.of hg h, p⟩

/-- All are bytes. -/
def Byt (l : List Int) : Prop := ∀ x ∈ l, 0 ≤ x ∧ x ≤ 255
theorem byt_wf {l : List Int} (h : ∀ x ∈ l, (Lit.int .u8 x).wf = true) : Byt l := by
  intro x hx
  have := h x hx
  simp [Lit.wf, IntKind.min, IntKind.max, IntKind.signed, IntKind.bits] at this
  omega
theorem byt_rd {l : List Int} (h : Byt l) (i : Int) : 0 ≤ rd l i ∧ rd l i ≤ 255 := by
  unfold rd
  by_cases hi : i.toNat < l.length
  · rw [List.getD_eq_getElem?_getD, List.getElem?_eq_getElem hi]; exact h _ (List.getElem_mem hi)
  · rw [List.getD_eq_getElem?_getD, List.getElem?_eq_none (by omega)]; simp
theorem xor_nn {x y : Int} (hx : 0 ≤ x) (hx1 : x < 4611686018427387904) (hy : 0 ≤ y) (hy1 : y < 4611686018427387904) : 0 ≤ Go.bits .xor .i64 x y := by
  obtain ⟨a, rfl⟩ := Int.eq_ofNat_of_zero_le hx
  obtain ⟨b, rfl⟩ := Int.eq_ofNat_of_zero_le hy
  have ha : a < 2 ^ 62 := by omega
  have hb : b < 2 ^ 62 := by omega
  have hc := Nat.xor_lt_two_pow ha hb
  unfold Go.bits
  simp only [BitVec.ofInt_natCast, BitVec.toNat_xor, BitVec.toNat_ofNat]
  rw [IntKind.wrap_i64]
  have e : IntKind.i64.bits = 64 := rfl
  rw [e, Nat.mod_eq_of_lt (by omega), Nat.mod_eq_of_lt (by omega)]
  omega

/-- What a draw of a number below a tells. -/
def Pk (n a : Int) (r : Int × Int) : Prop := r.2 = n + 1 ∧ 0 ≤ r.1 ∧ (1 ≤ a → r.1 < a) ∧ (a < 1 → r.1 = 0)
theorem tmod_rng {x a : Int} (hx : 0 ≤ x) (ha : 1 ≤ a) : 0 ≤ Int.tmod x a ∧ Int.tmod x a < a := by
  rw [Int.tmod_eq_emod_of_nonneg hx]
  exact ⟨Int.emod_nonneg _ (by omega), Int.emod_lt_of_pos _ (by omega)⟩
theorem pick_j {s : List Int} (hs : Byt s) {n a : Int} (h0 : 0 ≤ n) (h1 : n ≤ 1000000000) (ha : 1 ≤ a) (hl : 1 ≤ (s.length : Int)) (hm : (s.length : Int) ≤ 1000000000) :
    Evx (fun k => spec_l20Rd_pick.j0 k a false s (n + 1)) (Pk n a) := by
  refine Evx.step (fun k => by rw [spec_l20Rd_pick.j0]) ?_
  have e1 : wrap64 (n + 1 - 1) = n := by unfold wrap64; omega
  have e2 : wrap64 (n * 7) = n * 7 := by unfold wrap64; omega
  have e3 : wrap64 (n * 7 + 3) = n * 7 + 3 := by unfold wrap64; omega
  have e4 : wrap64 (n * 29) = n * 29 := by unfold wrap64; omega
  simp only [e1, e2, e3, e4]
  refine Evx.neg (by simp) ?_
  refine Evx.ite (fun hlt => ?_) (fun hge => ?_)
  · refine Evx.pos h0 (Evx.neg (by omega) (Evx.now ?_))
    have hb := byt_rd hs n
    have e5 : wrap64 (rd s n) = rd s n := by unfold wrap64; omega
    rw [e5]
    have := tmod_rng hb.1 ha
    exact ⟨rfl, this.1, fun _ => this.2, fun h => by omega⟩
  · refine Evx.neg (by omega) ?_
    have r1 := tmod_rng h0 hl
    have r2 := tmod_rng (x := n * 7 + 3) (by omega) hl
    refine Evx.pos r1.1 (Evx.pos r1.2 (Evx.pos r2.1 (Evx.pos r2.2 (Evx.neg (by omega) (Evx.now ?_)))))
    have b1 := byt_rd hs (Int.tmod n s.length)
    have b2 := byt_rd hs (Int.tmod (n * 7 + 3) s.length)
    generalize rd s (Int.tmod n s.length) = x at b1 ⊢
    generalize rd s (Int.tmod (n * 7 + 3) s.length) = y at b2 ⊢
    have q0 : 0 ≤ Int.tdiv n s.length := Int.tdiv_nonneg h0 (by omega)
    have q1 : Int.tdiv n s.length ≤ n := by
      rw [Int.tdiv_eq_ediv_of_nonneg h0]; exact Int.ediv_le_self _ h0
    generalize Int.tdiv n s.length = q at q0 q1 ⊢
    have f1 : wrap64 x = x := by unfold wrap64; omega
    have f2 : wrap64 y = y := by unfold wrap64; omega
    have f3 : wrap64 (x * 131) = x * 131 := by unfold wrap64; omega
    have f4 : wrap64 (y * 1117) = y * 1117 := by unfold wrap64; omega
    have f5 : wrap64 (x * 131 + y * 1117) = x * 131 + y * 1117 := by unfold wrap64; omega
    have f6 : wrap64 (x * 131 + y * 1117 + n * 29) = x * 131 + y * 1117 + n * 29 := by unfold wrap64; omega
    have f7 : wrap64 q = q := by unfold wrap64; omega
    have f8 : wrap64 (q * 53) = q * 53 := by unfold wrap64; omega
    have f9 : wrap64 (x * 131 + y * 1117 + n * 29 + q * 53) = x * 131 + y * 1117 + n * 29 + q * 53 := by unfold wrap64; omega
    simp only [f1, f2, f3, f4, f5, f6, f7, f8, f9]
    have z0 : 0 ≤ x * 131 + y * 1117 + n * 29 + q * 53 := by omega
    have z1 : x * 131 + y * 1117 + n * 29 + q * 53 < 1000000000000 := by omega
    generalize x * 131 + y * 1117 + n * 29 + q * 53 = z at z0 z1 ⊢
    have f10 : wrap64 (Int.tdiv z 64) = z / 64 := by
      rw [Int.tdiv_eq_ediv_of_nonneg z0]; unfold wrap64; omega
    rw [f10]
    have := tmod_rng (xor_nn (x := z) (y := z / 64) z0 (by omega) (by omega) (by omega)) ha
    exact ⟨rfl, this.1, fun _ => this.2, fun h => by omega⟩
theorem pick_x {s : List Int} (hs : Byt s) (hm : (s.length : Int) ≤ 1000000000) (n a : Int) (h0 : 0 ≤ n) (h1 : n ≤ 1000000000) :
    Evx (fun k => spec_l20Rd_pick.f k s n a) (Pk n a) := by
  unfold spec_l20Rd_pick.f
  have e0 : wrap64 (n + 1) = n + 1 := by unfold wrap64; omega
  rw [e0]
  refine Evx.ite (fun ha => ?_) (fun ha => ?_)
  · refine Evx.step (fun k => by rw [spec_l20Rd_pick.j0]) (Evx.pos rfl (Evx.now ?_))
    exact ⟨rfl, Int.le_refl _, fun h => by omega, fun _ => rfl⟩
  · by_cases hl : (s.length : Int) = 0
    · have e : ((s.length : Int) == 0) = true := beq_iff_eq.mpr hl
      rw [e]
      refine Evx.step (fun k => by rw [spec_l20Rd_pick.j0]) (Evx.pos rfl (Evx.now ?_))
      exact ⟨rfl, Int.le_refl _, fun h => by omega, fun _ => rfl⟩
    · have e : ((s.length : Int) == 0) = false := beq_eq_false_iff_ne.mpr hl
      rw [e]
      exact pick_j hs h0 h1 (by omega) (by omega) hm
/-- What the reader that is opened is. -/
def Opn (r : List Int × Int) : Prop := Byt r.1 ∧ (r.1.length : Int) ≤ 2000 ∧ r.2 = 0
theorem open_x {l : List Int} (hl : Byt l) : ∃ r, spec_l20Open.f l = some r ∧ Opn r := by
  unfold spec_l20Open.f
  by_cases h : (l.length : Int) > 2000
  · rw [if_pos h, if_pos (by omega)]
    exact ⟨_, rfl, fun x hx => hl x (List.mem_of_mem_take hx), by simp only [List.length_take]; omega, rfl⟩
  · rw [if_neg h]
    exact ⟨_, rfl, hl, by simp only []; omega, rfl⟩

theorem alive_x : Evx (fun k => laws_alive.f k) (fun r => r = true) := Evx.of laws_alive.mono (k := 10) (r := true) (by decide +kernel) rfl

theorem impl_in_eq (a b c : Int) : impl_in.f a b c = some (decide (b ≤ a ∧ a ≤ c)) := by
  unfold impl_in.f
  by_cases h : b ≤ a
  · rw [if_pos h]; simp [h]
  · rw [if_neg (by omega)]; simp [h]
theorem spec_in_eq (a b c : Int) : spec_l1In.f a b c = some (decide (b ≤ a ∧ a ≤ c)) := by
  unfold spec_l1In.f
  by_cases h : b ≤ a
  · rw [if_pos h]; simp [h]
  · rw [if_neg (by omega)]; simp [h]

/-- The marks that two have. -/
def Bt (a b : Int) : Int := (if a % 2 = 1 ∧ b % 2 = 1 then 1 else 0) + (if a / 2 % 2 = 1 ∧ b / 2 % 2 = 1 then 2 else 0) + (if a / 4 % 2 = 1 ∧ b / 4 % 2 = 1 then 4 else 0)
theorem of_fin {P : Int → Int → Prop} (h : ∀ a b : Fin 8, P (a.val : Int) (b.val : Int)) {a b : Int} (a0 : 0 ≤ a) (a1 : a ≤ 7) (b0 : 0 ≤ b) (b1 : b ≤ 7) : P a b := by
  obtain ⟨x, rfl⟩ := Int.eq_ofNat_of_zero_le a0
  obtain ⟨y, rfl⟩ := Int.eq_ofNat_of_zero_le b0
  exact h ⟨x, by omega⟩ ⟨y, by omega⟩
theorem both_dec : ∀ a b : Fin 8, spec_l17Both.f 5 (a.val : Int) (b.val : Int) = some (Bt a.val b.val) := by decide +kernel
theorem both_x {a b : Int} (a0 : 0 ≤ a) (a1 : a ≤ 7) (b0 : 0 ≤ b) (b1 : b ≤ 7) : Evx (fun k => spec_l17Both.f k a b) (fun r => r = Bt a b) :=
  Evx.of (spec_l17Both.mono a b) (of_fin (P := fun a b => spec_l17Both.f 5 a b = some (Bt a b)) both_dec a0 a1 b0 b1) rfl
theorem andnot_dec : ∀ a b : Fin 8, (Go.bits .andNot .i64 (b.val : Int) (a.val : Int) == 0) = decide (Bt a.val b.val = b.val) := by decide +kernel
theorem andnot_eq {a b : Int} (a0 : 0 ≤ a) (a1 : a ≤ 7) (b0 : 0 ≤ b) (b1 : b ≤ 7) : (Go.bits .andNot .i64 b a == 0) = decide (Bt a b = b) :=
  of_fin (P := fun a b => (Go.bits .andNot .i64 b a == 0) = decide (Bt a b = b)) andnot_dec a0 a1 b0 b1
/-- It is a watch. -/
def Wok (m t : Int) : Prop := (0 ≤ m ∧ m ≤ 7) ∧ (0 ≤ t ∧ t ≤ 7) ∧ Bt m t = t
instance (m t : Int) : Decidable (Wok m t) := by unfold Wok; infer_instance
theorem impl_WatchOk_eq (m t : Int) : impl_WatchOk.f m t = some (decide (Wok m t)) := by
  unfold impl_WatchOk.f
  simp only [impl_in_eq, Option.bind_some]
  by_cases h : 0 ≤ m ∧ m ≤ 7
  · rw [if_pos (by simpa using h)]
    by_cases h2 : 0 ≤ t ∧ t ≤ 7
    · rw [if_pos (by simpa using h2), andnot_eq h.1 h.2 h2.1 h2.2]; simp [Wok, h, h2]
    · rw [if_neg (by simpa using h2)]; simp [Wok, h, h2]
  · rw [if_neg (by simpa using h)]; simp [Wok, h]
theorem spec_WatchOk_x (m t : Int) : Evx (fun k => spec_WatchOk.f k m t) (fun r => r = decide (Wok m t)) := by
  unfold spec_WatchOk.f
  simp only [spec_in_eq, Option.bind_some]
  refine Evx.ite (fun h => Evx.ite (fun h2 => ?_) (fun h2 => Evx.now ?_)) (fun h => Evx.now ?_)
  · have h : 0 ≤ m ∧ m ≤ 7 := by simpa using h
    have h2 : 0 ≤ t ∧ t ≤ 7 := by simpa using h2
    refine Evx.bind (both_x h.1 h.2 h2.1 h2.2) fun r hr => Evx.now ?_
    subst hr
    simp [Wok, h, h2]
    rw [Bool.eq_iff_iff]; simp
  · have h2 : ¬ (0 ≤ t ∧ t ≤ 7) := by simpa using h2
    exact (decide_eq_false (fun q => h2 q.2.1)).symm
  · have h : ¬ (0 ≤ m ∧ m ≤ 7) := by simpa using h
    exact (decide_eq_false (fun q => h q.1)).symm
theorem bt_zero (m : Int) : Bt m 0 = 0 := by simp [Bt]
theorem bt_self {m : Int} (h0 : 0 ≤ m) (h1 : m ≤ 7) : Bt m m = m := by unfold Bt; omega

theorem odd_x {s : List Int} (hs : Byt s) (hm : (s.length : Int) ≤ 1000000000) (n a : Int) (h0 : 0 ≤ n) (h1 : n ≤ 1000000000) :
    Evx (fun k => spec_l20Rd_odd.f k s n a) (fun r => n ≤ r.2 ∧ r.2 ≤ n + 1) := by
  unfold spec_l20Rd_odd.f
  refine Evx.ite (fun h => ?_) (fun h => ?_)
  · refine Evx.bind (pick_x hs hm n a h0 h1) fun r hr => Evx.now ?_
    obtain ⟨e, _⟩ := hr
    simp only [e]; omega
  · exact Evx.now ⟨Int.le_refl _, by simp only []; omega⟩
theorem watch_x {s : List Int} (hs : Byt s) (hm : (s.length : Int) ≤ 1000000000) (n a : Int) (h0 : 0 ≤ n) (h1 : n ≤ 1000000) :
    Evx (fun k => spec_l20Watch.f k s n a) (fun r => n ≤ r.2.2 ∧ r.2.2 ≤ n + 4) := by
  unfold spec_l20Watch.f
  refine Evx.bind (pick_x hs hm _ _ (by omega) (by omega)) fun r1 p1 => ?_
  obtain ⟨e1, a1, b1, _⟩ := p1
  refine Evx.bind (pick_x hs hm _ _ (by omega) (by omega)) fun r2 p2 => ?_
  obtain ⟨e2, a2, b2, _⟩ := p2
  have b1 := b1 (by omega)
  have b2 := b2 (by omega)
  refine Evx.bind (both_x (by omega) (by omega) (by omega) (by omega)) fun r3 _ => ?_
  refine Evx.bind (odd_x hs hm _ _ (by omega) (by omega)) fun r4 p4 => ?_
  refine Evx.ite (fun _ => ?_) (fun _ => Evx.now (by simp only []; omega))
  refine Evx.bind (pick_x hs hm _ _ (by omega) (by omega)) fun r5 p5 => Evx.now ?_
  obtain ⟨e5, _⟩ := p5
  simp only [e5]; omega

theorem draw_x {l : List Int} (hl : Byt l) : Evx (fun k => spec_DrawWatchOk.f k l) (fun _ => True) := by
  unfold spec_DrawWatchOk.f
  obtain ⟨r, e, hb, hn, hp⟩ := open_x hl
  rw [e]; simp only [Option.bind_some]
  exact Evx.bind (watch_x hb (by omega) _ _ (by omega) (by omega)) fun _ _ => Evx.now trivial
theorem FnWatchOk : laws_FnWatchOk.Pure := by
  intro l _ hn hw
  refine Evx.law (g := fun k => laws_FnWatchOk.f k l) ?_
  unfold laws_FnWatchOk.f
  refine Evx.ite (fun _ => Evx.now rfl) (fun _ => ?_)
  refine Evx.bind (draw_x (byt_wf hw)) fun d _ => ?_
  have al := Evx.bind (f := fun _ t => some t) alive_x fun r hr => Evx.now hr
  simp only [impl_WatchOk_eq, Option.bind_some]
  refine Evx.bind (spec_WatchOk_x _ _) fun r hr => ?_
  subst hr
  have z : Wok 0 0 := by decide
  refine Evx.neg (by simp) ?_
  refine Evx.ite (fun h => ?_) (fun h => Evx.pos (by simpa using z) al)
  have h : Wok d.1 d.2 := by simpa using h
  have y1 : Wok d.1 0 := ⟨h.1, by omega, bt_zero _⟩
  have y2 : Wok d.1 d.1 := ⟨h.1, h.1, bt_self h.1.1 h.1.2⟩
  exact Evx.pos (by simpa using y1) (Evx.pos (by simpa using y2) (Evx.pos (by simpa using z) al))

end Go.Proofs.Ytkhjpkholpclhaa.Pure
