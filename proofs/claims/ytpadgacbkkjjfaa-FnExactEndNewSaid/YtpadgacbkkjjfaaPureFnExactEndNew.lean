/- The plain statement of FnExactEndNew: for all arguments, the law's function comes to true; there is no condition beyond those it names. -/
import Derived.Test.YtpadgacbkkjjfaaGFnExactEndNewx13
set_option linter.unusedVariables false
set_option linter.unusedSimpArgs false
set_option maxRecDepth 100000
namespace Go.Proofs.Ytpadgacbkkjjfaa.Pure
open Go.RowKit Go.Proofs.Ytpadgacbkkjjfaa.GFnExactEndNew Go.Proofs.YtpadgacbkkjjfaaVExactEndNew.PrintWords Go.Proofs.YtpadgacbkkjjfaaVExactEndNew.PrintLast Go.Proofs.YtpadgacbkkjjfaaVExactEndNew.PrintMore

theorem w64 {x : Int} (h0 : -9223372036854775808 ≤ x) (h1 : x ≤ 9223372036854775807) : wrap64 x = x := by unfold wrap64; omega

/-- It comes to an answer of which P holds. -/
def Evx {α : Type} (g : Nat → Option α) (P : α → Prop) : Prop := ∃ r, Ev g r ∧ P r
theorem Evx.bind {α β : Type} {g : Nat → Option α} {f : Nat → α → Option β} {P : α → Prop} {Q : β → Prop} (h : Evx g P) (k : ∀ a, P a → Evx (fun n => f n a) Q) : Evx (fun n => (g n).bind (f n)) Q := by
  obtain ⟨a, ha, pa⟩ := h
  obtain ⟨r, hr, qr⟩ := k a pa
  exact ⟨r, Ev.bind ha hr, qr⟩
theorem Evx.now {α : Type} {P : α → Prop} {r : α} (h : P r) : Evx (fun _ => some r) P := ⟨r, Ev.now r, h⟩
theorem Evx.pos {α : Type} {c : Prop} [Decidable c] {f g : Nat → Option α} {P : α → Prop} (hc : c) (h : Evx f P) : Evx (fun n => if c then f n else g n) P := by
  simp only [if_pos hc]; exact h
theorem Evx.neg {α : Type} {c : Prop} [Decidable c] {f g : Nat → Option α} {P : α → Prop} (hc : ¬ c) (h : Evx g P) : Evx (fun n => if c then f n else g n) P := by
  simp only [if_neg hc]; exact h
theorem Evx.ite {α : Type} {c : Prop} [Decidable c] {f g : Nat → Option α} {P : α → Prop} (h : c → Evx f P) (k : ¬ c → Evx g P) : Evx (fun n => if c then f n else g n) P := by
  by_cases hc : c
  · exact Evx.pos hc (h hc)
  · exact Evx.neg hc (k hc)
theorem Evx.step {α : Type} {g f : Nat → Option α} {P : α → Prop} (h : ∀ k, g (k + 1) = f k) (k : Evx f P) : Evx g P := by
  obtain ⟨r, hr, p⟩ := k
  exact ⟨r, Ev.step h hr, p⟩
theorem Evx.mono {α : Type} {g : Nat → Option α} {P Q : α → Prop} (h : Evx g P) (k : ∀ r, P r → Q r) : Evx g Q := by
  obtain ⟨r, hr, p⟩ := h
  exact ⟨r, hr, k r p⟩
theorem Evx.law {g : Nat → Option Bool} (h : Evx g (fun r => r = true)) : ∃ k, g k = some true := by
  obtain ⟨r, hr, rfl⟩ := h
  exact hr.rounds
theorem Evx.of {α : Type} {g : Nat → Option α} {r : α} {P : α → Prop} (hg : ∀ k, LeO (g k) (g (k + 1))) {k : Nat} (h : g k = some r) (p : P r) : Evx g P := ⟨r, Ev.of hg h, p⟩

/-- All are bytes. -/
def Byt (l : List Int) : Prop := ∀ x ∈ l, 0 ≤ x ∧ x ≤ 255
theorem byt_wf {l : List Int} (h : ∀ x ∈ l, (Lit.int .u8 x).wf = true) : Byt l := by
  intro x hx
  have := h x hx
  simp [Lit.wf, IntKind.min, IntKind.max, IntKind.signed, IntKind.bits] at this
  omega
theorem byt_rd {l : List Int} (h : Byt l) (i : Int) : 0 ≤ rd l i ∧ rd l i ≤ 255 := by
  unfold rd
  by_cases hi : i.toNat < l.length
  · rw [List.getD_eq_getElem?_getD, List.getElem?_eq_getElem hi]; exact h _ (List.getElem_mem hi)
  · rw [List.getD_eq_getElem?_getD, List.getElem?_eq_none (by omega)]; simp
theorem xor_nn {x y : Int} (hx : 0 ≤ x) (hx1 : x < 4611686018427387904) (hy : 0 ≤ y) (hy1 : y < 4611686018427387904) : 0 ≤ Go.bits .xor .i64 x y := by
  obtain ⟨a, rfl⟩ := Int.eq_ofNat_of_zero_le hx
  obtain ⟨b, rfl⟩ := Int.eq_ofNat_of_zero_le hy
  have ha : a < 2 ^ 62 := by omega
  have hb : b < 2 ^ 62 := by omega
  have hc := Nat.xor_lt_two_pow ha hb
  unfold Go.bits
  simp only [BitVec.ofInt_natCast, BitVec.toNat_xor, BitVec.toNat_ofNat]
  rw [IntKind.wrap_i64]
  have e : IntKind.i64.bits = 64 := rfl
  rw [e, Nat.mod_eq_of_lt (by omega), Nat.mod_eq_of_lt (by omega)]
  omega

theorem impl_in_eq (a b c : Int) : impl_in.f a b c = some (decide (b ≤ a ∧ a ≤ c)) := by
  unfold impl_in.f
  by_cases h : b ≤ a
  · rw [if_pos h]; simp [h]
  · rw [if_neg (by omega)]; simp [h]
theorem spec_in_eq (a b c : Int) : spec_l1In.f a b c = some (decide (b ≤ a ∧ a ≤ c)) := by
  unfold spec_l1In.f
  by_cases h : b ≤ a
  · rw [if_pos h]; simp [h]
  · rw [if_neg (by omega)]; simp [h]

theorem byt_take {l : List Int} (h : Byt l) (n : Nat) : Byt (l.take n) := fun x hx => h x (List.mem_of_mem_take hx)
theorem byt_drop {l : List Int} (h : Byt l) (n : Nat) : Byt (l.drop n) := fun x hx => h x (List.mem_of_mem_drop hx)
theorem byt_app {l m : List Int} (h : Byt l) (k : Byt m) : Byt (l ++ m) := fun x hx => (List.mem_append.1 hx).elim (h x) (k x)

/-- It is a clock. -/
def Cok (m f w : Int) : Prop := (0 ≤ m ∧ m ≤ 80000) ∧ (0 ≤ f ∧ f ≤ 80000) ∧ 4 ≤ w ∧ w ≤ 200
instance (m f w : Int) : Decidable (Cok m f w) := by unfold Cok; infer_instance

theorem spec_ClockOk_eq (m f w : Int) : spec_ClockOk.f m f w = some (decide (Cok m f w)) := by
  unfold spec_ClockOk.f
  simp only [spec_in_eq, Option.bind_some]
  by_cases h : 0 ≤ m ∧ m ≤ 80000
  · rw [if_pos (by simpa using h)]
    by_cases h2 : 0 ≤ f ∧ f ≤ 80000
    · rw [if_pos (by simpa using h2)]; simp [Cok, h, h2]
    · rw [if_neg (by simpa using h2)]; simp [Cok, h, h2]
  · rw [if_neg (by simpa using h)]; simp [Cok, h]

theorem Evx.sb {α β : Type} {a : α} {f : Nat → α → Option β} {P : β → Prop} (h : Evx (fun k => f k a) P) : Evx (fun k => (some a).bind (f k)) P := h

/-- A range that is in place behind another. -/
def Q (last tt : Int) (r : S69) : Bool := decide (r.f0 > last) && decide (r.f1 > r.f0) && decide (r.f1 ≤ tt)
/-- At most two ranges in place. -/
def RgR (h t : Int) : List S69 → Bool
  | [] => true
  | [a] => Q h t a
  | [a, b] => Q h t a && Q a.f1 t b
  | _ => false
theorem q_true {last tt : Int} {r : S69} (h : Q last tt r = true) : r.f0 > last ∧ r.f1 > r.f0 ∧ r.f1 ≤ tt := by
  unfold Q at h; simp only [Bool.and_eq_true, decide_eq_true_eq] at h; exact ⟨h.1.1, h.1.2, h.2⟩
theorem q_of {last tt : Int} {r : S69} (h0 : r.f0 > last) (h1 : r.f1 > r.f0) (h2 : r.f1 ≤ tt) : Q last tt r = true := by
  unfold Q; simp only [Bool.and_eq_true, decide_eq_true_eq]; exact ⟨⟨h0, h1⟩, h2⟩
theorem q_no {last tt : Int} {r : S69} (h : ¬ (r.f0 > last ∧ r.f1 > r.f0 ∧ r.f1 ≤ tt)) : Q last tt r = false := by
  cases e : Q last tt r with
  | false => rfl
  | true => exact absurd (q_true e) h
/-- A mouth. -/
def MouthR (h : Int) (kp : List Int) (s r : Int) (l : List S69) : Bool := decide (0 ≤ h ∧ h ≤ 1000000) && decide (kp.length ≤ 32) && decide (0 ≤ s ∧ s ≤ (kp.length : Int)) && decide (0 ≤ r ∧ r ≤ 255) && decide (l.length ≤ 2) && RgR h (h + s) l

theorem spec_rg (l : List S69) (hl : l.length ≤ 2) {h s : Int} (h0 : 0 ≤ h) (h1 : h ≤ 1000000) (s0 : 0 ≤ s) (s1 : s ≤ 100) (kp : List Int) (r : Int) : Evx (fun k => spec_MouthOk.l0 k 0 h kp s r l) (fun z => z = RgR h (h + s) l) := by
  have e : wrap64 (h + s) = h + s := by unfold wrap64; omega
  have w1 : wrap64 (0 + 1) = 1 := by unfold wrap64; omega
  have w0 : wrap64 (1 - 1) = 0 := by unfold wrap64; omega
  have w2 : wrap64 (1 + 1) = 2 := by unfold wrap64; omega
  match l, hl with
  | [], _ =>
    refine Evx.step (fun k => by rw [spec_MouthOk.l0]) ?_
    exact Evx.neg (by simp) (Evx.now rfl)
  | [a], _ =>
    have ra : rd_T69 [a] 0 = a := rfl
    refine Evx.step (fun k => by rw [spec_MouthOk.l0]) (Evx.pos (by simp) (Evx.pos (by omega) ?_))
    rw [ra, e, w1]
    unfold RgR
    refine Evx.ite (fun c => Evx.now (q_no (fun q => by omega)).symm) (fun c1 => Evx.ite (fun c => Evx.now (q_no (fun q => by omega)).symm) (fun c2 => Evx.ite (fun c => Evx.now (q_no (fun q => by omega)).symm) (fun c3 => Evx.neg (by omega) ?_)))
    refine Evx.step (fun k => by rw [spec_MouthOk.l0]) ?_
    exact Evx.neg (by simp) (Evx.now (q_of (by omega) (by omega) (by omega)).symm)
  | [a, b], _ =>
    have ra : rd_T69 [a, b] 0 = a := rfl
    have rb : rd_T69 [a, b] 1 = b := rfl
    refine Evx.step (fun k => by rw [spec_MouthOk.l0]) (Evx.pos (by simp) (Evx.pos (by omega) ?_))
    rw [ra, e, w1]
    show Evx _ (fun z => z = (Q h (h + s) a && Q a.f1 (h + s) b))
    have no : ¬ (a.f0 > h ∧ a.f1 > a.f0 ∧ a.f1 ≤ h + s) → false = (Q h (h + s) a && Q a.f1 (h + s) b) := fun q => by rw [q_no q]; rfl
    refine Evx.ite (fun c => Evx.now (no (fun q => by omega))) (fun c1 => Evx.ite (fun c => Evx.now (no (fun q => by omega))) (fun c2 => Evx.ite (fun c => Evx.now (no (fun q => by omega))) (fun c3 => Evx.neg (by omega) ?_)))
    rw [q_of (show a.f0 > h by omega) (by omega) (show a.f1 ≤ h + s by omega), Bool.true_and]
    refine Evx.step (fun k => by rw [spec_MouthOk.l0]) (Evx.pos (by simp) (Evx.pos (by omega) ?_))
    rw [rb, e, w0, ra, w2]
    refine Evx.ite (fun c => Evx.now (q_no (fun q => by omega)).symm) (fun d1 => Evx.ite (fun c => Evx.now (q_no (fun q => by omega)).symm) (fun d2 => Evx.ite (fun c => Evx.now (q_no (fun q => by omega)).symm) (fun d3 => Evx.pos (by omega) (Evx.pos (by omega) (Evx.pos (by simp) (Evx.ite (fun c => Evx.now (q_no (fun q => by omega)).symm) (fun d4 => ?_)))))))
    refine Evx.step (fun k => by rw [spec_MouthOk.l0]) ?_
    exact Evx.neg (by simp) (Evx.now (q_of (by omega) (by omega) (by omega)).symm)
theorem spec_mouth_x (h : Int) (kp : List Int) (s r : Int) (l : List S69) : Evx (fun k => spec_MouthOk.f k h kp s r l) (fun z => z = MouthR h kp s r l) := by
  unfold spec_MouthOk.f MouthR
  simp only [spec_in_eq, Option.bind_some]
  have no : Evx (fun k => spec_MouthOk.j0 k true h kp s r l) (fun z => z = false) := by
    refine Evx.step (fun k => by rw [spec_MouthOk.j0]) ?_
    exact Evx.pos rfl (Evx.now rfl)
  refine Evx.ite (fun c1 => ?_) (fun c1 => no.mono fun z hz => by rw [hz]; simp [c1])
  refine Evx.ite (fun c2 => no.mono fun z hz => by rw [hz, decide_eq_false (show ¬ kp.length ≤ 32 by omega)]; simp) (fun c2 => ?_)
  refine Evx.ite (fun c3 => ?_) (fun c3 => no.mono fun z hz => by rw [hz]; simp [c3])
  refine Evx.ite (fun c4 => ?_) (fun c4 => no.mono fun z hz => by rw [hz]; simp [c4])
  have d1 := of_decide_eq_true c1
  have d3 := of_decide_eq_true c3
  by_cases c5 : (l.length : Int) > 2
  · rw [decide_eq_true c5]
    exact no.mono fun z hz => by rw [hz, decide_eq_false (show ¬ l.length ≤ 2 by omega)]; simp
  · rw [decide_eq_false c5, c1, c3, c4, decide_eq_true (show kp.length ≤ 32 by omega), decide_eq_true (show l.length ≤ 2 by omega)]
    refine Evx.step (fun k => by rw [spec_MouthOk.j0]) (Evx.neg (by simp) ?_)
    exact (spec_rg l (by omega) d1.1 d1.2 d3.1 (by omega) kp r).mono fun z hz => by rw [hz]; simp

theorem mouth_parts {h s r : Int} {kp : List Int} {l : List S69} (q : MouthR h kp s r l = true) : (0 ≤ h ∧ h ≤ 1000000) ∧ kp.length ≤ 32 ∧ (0 ≤ s ∧ s ≤ (kp.length : Int)) ∧ l.length ≤ 2 ∧ ((l.length : Int) > 0 → (rd_T69 l 0).f0 > h ∧ (rd_T69 l 0).f0 ≤ h + s) := by
  unfold MouthR at q
  simp only [Bool.and_eq_true, decide_eq_true_eq] at q
  obtain ⟨⟨⟨⟨⟨q1, q2⟩, q3⟩, q4⟩, q5⟩, q6⟩ := q
  refine ⟨q1, q2, q3, q5, fun c => ?_⟩
  match l, q5 with
  | [], _ => exact absurd c (by simp)
  | [a], _ =>
    have := q_true (show Q h (h + s) a = true from q6)
    exact ⟨this.1, by show a.f0 ≤ h + s; omega⟩
  | [a, b], _ =>
    have q6 : (Q h (h + s) a && Q a.f1 (h + s) b) = true := q6
    rw [Bool.and_eq_true] at q6
    have := q_true q6.1
    exact ⟨this.1, by show a.f0 ≤ h + s; omega⟩

/-- Bytes that came early, in order between two places. -/
def FarL (hi : Int) : Int → List S59 → Bool
  | _, [] => true
  | p, x :: r => decide (x.f0 > p) && (decide (x.f0 < hi) && FarL hi x.f0 r)
theorem far_drop {l : List S59} {i : Int} (i0 : 0 ≤ i) (i1 : i < l.length) : l.drop i.toNat = rd_T59 l i :: l.drop (i + 1).toNat := by
  have h : i.toNat < l.length := by omega
  have e : (i + 1).toNat = i.toNat + 1 := by omega
  rw [List.drop_eq_getElem_cons h, e]
  unfold rd_T59
  rw [List.getD_eq_getElem?_getD, List.getElem?_eq_getElem h]; rfl
theorem far_le {hi q : Int} {d : S59} : ∀ (l : List S59) (p : Int), FarL hi p l = true → (0 < l.length → (l.getD (l.length - 1) d).f0 < q) → ∀ x ∈ l, x.f0 < q
  | [], _, _, _, x, hx => by simp at hx
  | [a], p, h, hq, x, hx => by
    have e : x = a := by simpa using hx
    subst e
    exact hq (by simp)
  | a :: b :: r, p, h, hq, x, hx => by
    unfold FarL at h
    simp only [Bool.and_eq_true, decide_eq_true_eq] at h
    have ih := far_le (b :: r) a.f0 h.2.2 (fun _ => hq (by simp))
    rcases List.mem_cons.1 hx with e | e
    · subst e
      have h2 := h.2.2
      unfold FarL at h2
      simp only [Bool.and_eq_true, decide_eq_true_eq] at h2
      have := ih b List.mem_cons_self
      omega
    · exact ih x e
theorem far_end {hi q p : Int} {l : List S59} (h : FarL hi p l = true) (c : (l.length : Int) > 0) : (rd_T59 l ((l.length : Int) - 1)).f0 < q ↔ ∀ x ∈ l, x.f0 < q := by
  have e : ((l.length : Int) - 1).toNat = l.length - 1 := by omega
  have hlt : l.length - 1 < l.length := by omega
  unfold rd_T59
  rw [e]
  refine ⟨fun g => far_le l p h (fun _ => g), fun g => ?_⟩
  rw [List.getD_eq_getElem?_getD, List.getElem?_eq_getElem hlt]
  exact g _ (List.getElem_mem hlt)
/-- An ear. -/
def EarR (nx rm : Int) (got : List Int) (far : List S59) : Bool := decide (0 ≤ nx ∧ nx ≤ 1000000) && (decide (1 ≤ rm ∧ rm ≤ 32) && (decide ((got.length : Int) ≤ rm) && FarL (nx + rm - got.length) nx far))
/-- An end of a stream, in parts. -/
structure EndV where
  (st ad n pa pn bs h : Int)
  (kp : List Int)
  (s r : Int)
  (l : List S69)
  (nx rm : Int)
  (got : List Int)
  (far : List S59)
  (cl tl he : Bool)
  (pl du tr m f w : Int)
/-- Something is to be heard yet. -/
def GoesP (e : EndV) : Prop := e.st = 2 ∨ e.st = 3 ∨ e.st = 4 ∧ (0 < (e.kp.length : Int) ∨ e.tl = true ∧ e.he = false)
/-- What of an end depends on its state. -/
def EndP1 (e : EndV) : Prop := (e.he = true → e.tl = true) ∧ (e.tl = true → e.cl = true ∧ e.s = (e.kp.length : Int) ∧ 4 ≤ e.st)
def EndP2 (e : EndV) : Prop := e.st < 4 → e.s = 0 ∧ e.h = e.bs + 1 ∧ e.pl = -1
def EndP3 (e : EndV) : Prop := (0 < e.pn ↔ 2 ≤ e.st) ∧ (GoesP e ∨ e.du = 0 ∧ (e.tr = 0 ∨ e.st = 5))
def EndP4 (e : EndV) : Prop := e.pl = -1 ∨ (∀ x ∈ e.far, x.f0 < e.pl) ∧ e.nx ≤ e.pl ∧ e.pl ≤ 1000000
/-- The parts of an end are in their bounds. -/
def EndP5 (e : EndV) : Prop := MouthR e.h e.kp e.s e.r e.l = true ∧ e.bs < e.h ∧ EarR e.nx e.rm e.got e.far = true ∧ Cok e.m e.f e.w ∧ (0 ≤ e.du ∧ e.du ≤ 1000000) ∧ (0 ≤ e.tr ∧ e.tr ≤ 8)
def EndP6 (e : EndV) : Prop := (0 ≤ e.st ∧ e.st ≤ 5) ∧ (0 ≤ e.ad ∧ e.ad ≤ 65535) ∧ (1 ≤ e.n ∧ e.n ≤ 255) ∧ (0 ≤ e.pa ∧ e.pa ≤ 65535) ∧ (0 ≤ e.pn ∧ e.pn ≤ 255) ∧ (0 ≤ e.bs ∧ e.bs ≤ 65535)
/-- An end. -/
def EndP (e : EndV) : Prop := EndP6 e ∧ EndP5 e ∧ EndP1 e ∧ EndP2 e ∧ EndP3 e ∧ EndP4 e

theorem spec_ear_l {nx rm : Int} {got : List Int} {far : List S59} (n0 : 0 ≤ nx) (n1 : nx ≤ 1000000) (r0 : 1 ≤ rm) (r1 : rm ≤ 32) (g1 : (got.length : Int) ≤ rm) (hl : (far.length : Int) ≤ 1000000000) (d : Nat) : ∀ i p : Int, 0 ≤ i → i ≤ far.length → far.length - i = d → nx ≤ p → (i = 0 → p = nx) → (0 < i → p = (rd_T59 far (i - 1)).f0) →
    Evx (fun k => spec_EarOk.l0 k i nx rm got far) (fun z => z = FarL (nx + rm - got.length) p (far.drop i.toNat)) := by
  have w1 : wrap64 (wrap64 (nx + rm) - (got.length : Int)) = nx + rm - got.length := by unfold wrap64; omega
  induction d with
  | zero =>
    intro i p i0 i1 hd hp h0 h1
    refine Evx.step (fun k => by rw [spec_EarOk.l0]) (Evx.neg (by omega) (Evx.now ?_))
    rw [List.drop_of_length_le (by omega)]; rfl
  | succ d ih =>
    intro i p i0 i1 hd hp h0 h1
    have e : wrap64 (i + 1) = i + 1 := by unfold wrap64; omega
    have e2 : wrap64 (i - 1) = i - 1 := by unfold wrap64; omega
    refine Evx.step (fun k => by rw [spec_EarOk.l0]) (Evx.pos (by omega) (Evx.pos i0 ?_))
    rw [far_drop i0 (by omega), w1, e, e2]
    show Evx _ (fun z => z = (decide ((rd_T59 far i).f0 > p) && (decide ((rd_T59 far i).f0 < nx + rm - got.length) && FarL (nx + rm - got.length) (rd_T59 far i).f0 (far.drop (i + 1).toNat))))
    have next : (rd_T59 far i).f0 > p → (rd_T59 far i).f0 < nx + rm - got.length → Evx (fun k => spec_EarOk.l0 k (i + 1) nx rm got far) (fun z => z = (decide ((rd_T59 far i).f0 > p) && (decide ((rd_T59 far i).f0 < nx + rm - got.length) && FarL (nx + rm - got.length) (rd_T59 far i).f0 (far.drop (i + 1).toNat)))) := fun a b => by
      rw [decide_eq_true a, decide_eq_true b, Bool.true_and, Bool.true_and]
      exact ih (i + 1) _ (by omega) (by omega) (by omega) (by omega) (by omega) (fun _ => by rw [Int.add_sub_cancel])
    refine Evx.ite (fun c => Evx.now (by rw [decide_eq_false (show ¬ (rd_T59 far i).f0 > p by omega)]; rfl)) (fun c1 => ?_)
    refine Evx.ite (fun c => Evx.now (by rw [decide_eq_false (show ¬ (rd_T59 far i).f0 < nx + rm - got.length by omega), Bool.false_and, Bool.and_false])) (fun c2 => ?_)
    refine Evx.ite (fun c3 => ?_) (fun c3 => next (by have := h0 (by omega); omega) (by omega))
    refine Evx.pos (by omega) (Evx.pos (by omega) ?_)
    rw [← h1 (by omega)]
    exact Evx.ite (fun c => Evx.now (by rw [decide_eq_false (show ¬ (rd_T59 far i).f0 > p by omega)]; rfl)) (fun c => next (by omega) (by omega))
theorem spec_ear_x (nx rm : Int) {got : List Int} {far : List S59} (hl : (far.length : Int) ≤ 1000000000) : Evx (fun k => spec_EarOk.f k nx rm got far) (fun z => z = EarR nx rm got far) := by
  unfold spec_EarOk.f EarR
  have no : Evx (fun k => spec_EarOk.j0 k true nx rm got far) (fun z => z = false) := Evx.step (fun k => by rw [spec_EarOk.j0]) (Evx.pos rfl (Evx.now rfl))
  rw [spec_in_eq, spec_in_eq]
  refine Evx.sb (Evx.ite (fun c1 => ?_) (fun c1 => no.mono fun z h => by rw [h, Bool.eq_false_iff.2 c1]; rfl))
  refine Evx.sb (Evx.ite (fun c2 => ?_) (fun c2 => no.mono fun z h => by rw [h, Bool.eq_false_iff.2 c2, Bool.false_and, Bool.and_false]))
  have d1 := of_decide_eq_true c1
  have d2 := of_decide_eq_true c2
  rw [c1, c2, Bool.true_and, Bool.true_and]
  by_cases c3 : (got.length : Int) > rm
  · rw [decide_eq_true c3, decide_eq_false (show ¬ (got.length : Int) ≤ rm by omega)]
    exact no
  · rw [decide_eq_false c3, decide_eq_true (show (got.length : Int) ≤ rm by omega), Bool.true_and]
    refine Evx.step (fun k => by rw [spec_EarOk.j0]) (Evx.neg (by simp) ?_)
    exact spec_ear_l d1.1 d1.2 d2.1 d2.2 (by omega) hl far.length 0 nx (by omega) (by omega) (by omega) (by omega) (fun _ => rfl) (fun h => by omega)
theorem ear_far {nx rm : Int} {got : List Int} {far : List S59} (h : EarR nx rm got far = true) : FarL (nx + rm - got.length) nx far = true := by
  unfold EarR at h
  simp only [Bool.and_eq_true] at h
  exact h.2.2.2
theorem ear_in {nx rm : Int} {got : List Int} {far : List S59} (h : EarR nx rm got far = true) : (0 ≤ nx ∧ nx ≤ 1000000) ∧ (1 ≤ rm ∧ rm ≤ 32) ∧ (got.length : Int) ≤ rm := by
  unfold EarR at h
  simp only [Bool.and_eq_true, decide_eq_true_eq] at h
  exact ⟨h.1, h.2.1, h.2.2.1⟩
theorem spec_open_x (e : EndV) (hk : 0 < e.s → 0 < (e.kp.length : Int)) : Evx (fun k => spec_l15Open.f k e.st e.ad e.n e.pa e.pn e.bs e.h e.kp e.s e.r e.l e.nx e.rm e.got e.far e.cl e.tl e.he e.pl e.du e.tr e.m e.f e.w) (fun z => z = true ↔ GoesP e) := by
  unfold spec_l15Open.f
  refine Evx.ite (fun c2 => ?_) (fun c2 => ?_)
  · refine Evx.step (fun k => by rw [spec_l15Open.j0]) (Evx.pos (by rw [c2]; rfl) (Evx.now ⟨fun _ => Or.inl c2, fun _ => rfl⟩))
  · refine Evx.step (fun k => by rw [spec_l15Open.j0]) ?_
    refine Evx.ite (fun c3 => Evx.now ⟨fun _ => Or.inr (Or.inl (by simpa using c3)), fun _ => rfl⟩) (fun c3 => ?_)
    have c3 : e.st ≠ 3 := by simpa using c3
    have only : ∀ q : Prop, (e.st = 4 → (q ↔ (0 < (e.kp.length : Int) ∨ e.tl = true ∧ e.he = false))) → (e.st ≠ 4 → ¬ q) → (q ↔ GoesP e) := by
      intro q h1 h2
      unfold GoesP
      by_cases c4 : e.st = 4
      · have h1 := h1 c4
        constructor
        · intro hq; exact Or.inr (Or.inr ⟨c4, h1.1 hq⟩)
        · rintro (h | h | h)
          · exact absurd h c2
          · exact absurd h c3
          · exact h1.2 h.2
      · constructor
        · intro hq; exact absurd hq (h2 c4)
        · rintro (h | h | h)
          · exact absurd h c2
          · exact absurd h c3
          · exact absurd h.1 c4
    refine Evx.ite (fun c4 => ?_) (fun c4 => Evx.now (only _ (fun h => absurd h c4) (fun _ => by simp)))
    refine Evx.ite (fun c5 => Evx.now (only _ (fun _ => ⟨fun _ => Or.inl (hk c5), fun _ => rfl⟩) (fun h => absurd c4 h))) (fun c5 => ?_)
    refine Evx.ite (fun c6 => Evx.ite (fun c7 => ?_) (fun c7 => ?_)) (fun c6 => ?_)
    · exact Evx.now (only _ (fun _ => by simp [c7]) (fun h => absurd c4 h))
    · exact Evx.now (only _ (fun _ => by simp [c6, c7]) (fun h => absurd c4 h))
    · exact Evx.now (only _ (fun _ => by simp [c6]) (fun h => absurd c4 h))
theorem spec_end4 (e : EndV) (b : Bool) (hl : (e.far.length : Int) ≤ 1000000000) (hf : b = false → FarL (e.nx + e.rm - e.got.length) e.nx e.far = true) : Evx (fun k => spec_EndOk.j4 k b e.st e.ad e.n e.pa e.pn e.bs e.h e.kp e.s e.r e.l e.nx e.rm e.got e.far e.cl e.tl e.he e.pl e.du e.tr e.m e.f e.w) (fun z => z = true ↔ b = false ∧ EndP4 e) := by
  have w1 : (e.far.length : Int) > 0 → wrap64 ((e.far.length : Int) - 1) = (e.far.length : Int) - 1 := fun _ => by unfold wrap64; omega
  refine Evx.step (fun k => by rw [spec_EndOk.j4]) ?_
  unfold EndP4
  rw [spec_in_eq]
  refine Evx.ite (fun c => Evx.now (by simp [c])) (fun c => ?_)
  have hb : b = false := by simpa using c
  have hf := hf hb
  refine Evx.ite (fun c1 => ?_) (fun c1 => ?_)
  · rw [w1 c1]
    refine Evx.ite (fun c2 => Evx.now ⟨fun _ => ⟨hb, Or.inl c2⟩, fun _ => rfl⟩) (fun c2 => ?_)
    refine Evx.pos (by omega) (Evx.pos (by omega) ?_)
    refine Evx.ite (fun c3 => Evx.now ⟨fun h => by simp at h, fun h => ?_⟩) (fun c3 => ?_)
    · rcases h.2 with h | h
      · exact absurd h c2
      · have := (far_end hf c1).2 h.1
        omega
    · have h4 := (far_end hf c1 (q := e.pl)).1 (by omega)
      refine Evx.sb (Evx.now ⟨fun h => ⟨hb, Or.inr ⟨h4, of_decide_eq_true h⟩⟩, fun h => ?_⟩)
      rcases h.2 with h | h
      · exact absurd h c2
      · exact decide_eq_true h.2
  · have h0 : ∀ x ∈ e.far, x.f0 < e.pl := by
      have : e.far = [] := List.length_eq_zero_iff.1 (by omega)
      rw [this]; intro x hx; simp at hx
    refine Evx.ite (fun c2 => Evx.now ⟨fun _ => ⟨hb, Or.inl c2⟩, fun _ => rfl⟩) (fun c2 => ?_)
    refine Evx.sb (Evx.now ⟨fun h => ⟨hb, Or.inr ⟨h0, of_decide_eq_true h⟩⟩, fun h => ?_⟩)
    rcases h.2 with h | h
    · exact absurd h c2
    · exact decide_eq_true h.2
theorem spec_end3 (e : EndV) (b : Bool) (hl : (e.far.length : Int) ≤ 1000000000) (hy : b = false → FarL (e.nx + e.rm - e.got.length) e.nx e.far = true ∧ (0 < e.s → 0 < (e.kp.length : Int)) ∧ 0 ≤ e.du ∧ 0 ≤ e.tr) : Evx (fun k => spec_EndOk.j3 k b e.st e.ad e.n e.pa e.pn e.bs e.h e.kp e.s e.r e.l e.nx e.rm e.got e.far e.cl e.tl e.he e.pl e.du e.tr e.m e.f e.w) (fun z => z = true ↔ b = false ∧ EndP3 e ∧ EndP4 e) := by
  refine Evx.step (fun k => by rw [spec_EndOk.j3]) ?_
  refine Evx.ite (fun c => Evx.now (by simp [c])) (fun c => ?_)
  have hb : b = false := by simpa using c
  obtain ⟨hf, hk, hd, ht⟩ := hy hb
  have j4 : ∀ b2 : Bool, (b2 = false ↔ EndP3 e) → Evx (fun k => spec_EndOk.j4 k b2 e.st e.ad e.n e.pa e.pn e.bs e.h e.kp e.s e.r e.l e.nx e.rm e.got e.far e.cl e.tl e.he e.pl e.du e.tr e.m e.f e.w) (fun z => z = true ↔ b = false ∧ EndP3 e ∧ EndP4 e) := fun b2 h => (spec_end4 e b2 hl (fun _ => hf)).mono fun z hz => by
    rw [hz, h]
    exact ⟨fun q => ⟨hb, q⟩, fun q => q.2⟩
  by_cases c1 : 0 < e.pn ↔ 2 ≤ e.st
  · have c2 : ¬ ((decide (e.pn > 0)) != (decide (e.st ≥ 2))) = true := by
      have : decide (e.pn > 0) = decide (e.st ≥ 2) := decide_eq_decide.2 c1
      rw [this]; simp
    refine Evx.neg c2 (Evx.bind (spec_open_x e hk) fun t h => ?_)
    refine Evx.ite (fun ct => j4 _ ⟨fun _ => ⟨c1, Or.inl (h.1 ct)⟩, fun _ => rfl⟩) (fun ct => ?_)
    have hn : ¬ GoesP e := fun q => ct (h.2 q)
    refine Evx.ite (fun cd => j4 _ ⟨fun q => by simp at q, fun q => ?_⟩) (fun cd => ?_)
    · rcases q.2 with q | q
      · exact absurd q hn
      · omega
    · refine Evx.ite (fun ce => j4 _ ⟨fun q => ⟨c1, Or.inr ⟨by omega, Or.inr (by simpa using q)⟩⟩, fun q => ?_⟩) (fun ce => j4 _ ⟨fun _ => ⟨c1, Or.inr ⟨by omega, Or.inl (by omega)⟩⟩, fun _ => rfl⟩)
      rcases q.2 with q | q
      · exact absurd q hn
      · rcases q.2 with q | q
        · omega
        · simp [q]
  · have c2 : ((decide (e.pn > 0)) != (decide (e.st ≥ 2))) = true := by
      rw [bne_iff_ne]
      exact fun q => c1 (decide_eq_decide.1 q)
    exact Evx.pos c2 (j4 _ ⟨fun q => by simp at q, fun q => absurd q.1 c1⟩)
theorem spec_end2 (e : EndV) (b : Bool) (hl : (e.far.length : Int) ≤ 1000000000) (hy : b = false → (FarL (e.nx + e.rm - e.got.length) e.nx e.far = true ∧ (0 < e.s → 0 < (e.kp.length : Int)) ∧ 0 ≤ e.du ∧ 0 ≤ e.tr) ∧ 0 ≤ e.s ∧ 0 ≤ e.bs ∧ e.bs ≤ 65535) : Evx (fun k => spec_EndOk.j2 k b e.st e.ad e.n e.pa e.pn e.bs e.h e.kp e.s e.r e.l e.nx e.rm e.got e.far e.cl e.tl e.he e.pl e.du e.tr e.m e.f e.w) (fun z => z = true ↔ b = false ∧ EndP2 e ∧ EndP3 e ∧ EndP4 e) := by
  refine Evx.step (fun k => by rw [spec_EndOk.j2]) ?_
  refine Evx.ite (fun c => Evx.now (by simp [c])) (fun c => ?_)
  have hb : b = false := by simpa using c
  obtain ⟨hy, s0, b0, b1⟩ := hy hb
  have w1 : wrap64 (e.bs + 1) = e.bs + 1 := by unfold wrap64; omega
  rw [w1]
  have j3 : ∀ b2 : Bool, (b2 = false ↔ EndP2 e) → Evx (fun k => spec_EndOk.j3 k b2 e.st e.ad e.n e.pa e.pn e.bs e.h e.kp e.s e.r e.l e.nx e.rm e.got e.far e.cl e.tl e.he e.pl e.du e.tr e.m e.f e.w) (fun z => z = true ↔ b = false ∧ EndP2 e ∧ EndP3 e ∧ EndP4 e) := fun b2 h => (spec_end3 e b2 hl (fun _ => hy)).mono fun z hz => by
    rw [hz, h]
    exact ⟨fun q => ⟨hb, q⟩, fun q => q.2⟩
  unfold EndP2 at j3 ⊢
  refine Evx.ite (fun c1 => ?_) (fun c1 => j3 _ ⟨fun _ h => absurd h c1, fun _ => rfl⟩)
  refine Evx.ite (fun c2 => j3 _ ⟨fun q => by simp at q, fun q => by have := q c1; omega⟩) (fun c2 => ?_)
  refine Evx.ite (fun c3 => j3 _ ⟨fun q _ => ⟨by omega, c3, by simpa using q⟩, fun q => by have := (q c1).2.2; simp [this]⟩) (fun c3 => j3 _ ⟨fun q => by simp at q, fun q => absurd (q c1).2.1 c3⟩)
theorem spec_end1 (e : EndV) (b : Bool) (hl : (e.far.length : Int) ≤ 1000000000) (hy : b = false → ((FarL (e.nx + e.rm - e.got.length) e.nx e.far = true ∧ (0 < e.s → 0 < (e.kp.length : Int)) ∧ 0 ≤ e.du ∧ 0 ≤ e.tr) ∧ 0 ≤ e.s ∧ 0 ≤ e.bs ∧ e.bs ≤ 65535) ∧ e.s ≤ (e.kp.length : Int)) : Evx (fun k => spec_EndOk.j1 k b e.st e.ad e.n e.pa e.pn e.bs e.h e.kp e.s e.r e.l e.nx e.rm e.got e.far e.cl e.tl e.he e.pl e.du e.tr e.m e.f e.w) (fun z => z = true ↔ b = false ∧ EndP1 e ∧ EndP2 e ∧ EndP3 e ∧ EndP4 e) := by
  refine Evx.step (fun k => by rw [spec_EndOk.j1]) ?_
  refine Evx.ite (fun c => Evx.now (by simp [c])) (fun c => ?_)
  have hb : b = false := by simpa using c
  obtain ⟨hy, s1⟩ := hy hb
  have j2 : ∀ b2 : Bool, (b2 = false ↔ EndP1 e) → Evx (fun k => spec_EndOk.j2 k b2 e.st e.ad e.n e.pa e.pn e.bs e.h e.kp e.s e.r e.l e.nx e.rm e.got e.far e.cl e.tl e.he e.pl e.du e.tr e.m e.f e.w) (fun z => z = true ↔ b = false ∧ EndP1 e ∧ EndP2 e ∧ EndP3 e ∧ EndP4 e) := fun b2 h => (spec_end2 e b2 hl (fun _ => hy)).mono fun z hz => by
    rw [hz, h]
    exact ⟨fun q => ⟨hb, q⟩, fun q => q.2⟩
  unfold EndP1 at j2 ⊢
  have no : ¬ EndP1 e → Evx (fun k => spec_EndOk.j2 k true e.st e.ad e.n e.pa e.pn e.bs e.h e.kp e.s e.r e.l e.nx e.rm e.got e.far e.cl e.tl e.he e.pl e.du e.tr e.m e.f e.w) (fun z => z = true ↔ b = false ∧ ((e.he = true → e.tl = true) ∧ (e.tl = true → e.cl = true ∧ e.s = (e.kp.length : Int) ∧ 4 ≤ e.st)) ∧ EndP2 e ∧ EndP3 e ∧ EndP4 e) := fun h => j2 _ ⟨fun q => by simp at q, fun q => absurd q h⟩
  have mid : e.tl = true → Evx (fun k => if e.cl = true then (if e.s < (e.kp.length : Int) then spec_EndOk.j2 k true e.st e.ad e.n e.pa e.pn e.bs e.h e.kp e.s e.r e.l e.nx e.rm e.got e.far e.cl e.tl e.he e.pl e.du e.tr e.m e.f e.w else spec_EndOk.j2 k (decide (e.st < 4)) e.st e.ad e.n e.pa e.pn e.bs e.h e.kp e.s e.r e.l e.nx e.rm e.got e.far e.cl e.tl e.he e.pl e.du e.tr e.m e.f e.w) else spec_EndOk.j2 k true e.st e.ad e.n e.pa e.pn e.bs e.h e.kp e.s e.r e.l e.nx e.rm e.got e.far e.cl e.tl e.he e.pl e.du e.tr e.m e.f e.w) (fun z => z = true ↔ b = false ∧ ((e.he = true → e.tl = true) ∧ (e.tl = true → e.cl = true ∧ e.s = (e.kp.length : Int) ∧ 4 ≤ e.st)) ∧ EndP2 e ∧ EndP3 e ∧ EndP4 e) := fun h => by
    refine Evx.ite (fun c1 => ?_) (fun c1 => no (fun q => c1 (q.2 h).1))
    refine Evx.ite (fun c2 => no (fun q => by have := (q.2 h).2.1; omega)) (fun c2 => ?_)
    refine j2 _ ⟨fun q => ⟨fun _ => h, fun _ => ⟨c1, by omega, by have := of_decide_eq_false q; omega⟩⟩, fun q => decide_eq_false (by have := (q.2 h).2.2; omega)⟩
  refine Evx.ite (fun c1 => ?_) (fun c1 => ?_)
  · refine Evx.ite (fun c2 => mid c2) (fun c2 => no (fun q => c2 (q.1 c1)))
  · refine Evx.ite (fun c2 => mid c2) (fun c2 => j2 _ ⟨fun _ => ⟨fun h => absurd h c1, fun h => absurd h c2⟩, fun _ => rfl⟩)
theorem spec_end0 (e : EndV) (b : Bool) (hl : (e.far.length : Int) ≤ 1000000000) (hy : b = false → 0 ≤ e.bs ∧ e.bs ≤ 65535) : Evx (fun k => spec_EndOk.j0 k b e.st e.ad e.n e.pa e.pn e.bs e.h e.kp e.s e.r e.l e.nx e.rm e.got e.far e.cl e.tl e.he e.pl e.du e.tr e.m e.f e.w) (fun z => z = true ↔ b = false ∧ EndP5 e ∧ EndP1 e ∧ EndP2 e ∧ EndP3 e ∧ EndP4 e) := by
  refine Evx.step (fun k => by rw [spec_EndOk.j0]) ?_
  refine Evx.ite (fun c => Evx.now (by simp [c])) (fun c => ?_)
  have hb : b = false := by simpa using c
  have hy := hy hb
  refine Evx.bind (spec_mouth_x e.h e.kp e.s e.r e.l) fun z0 hz0 => ?_
  have no : ¬ EndP5 e → Evx (fun k => spec_EndOk.j1 k true e.st e.ad e.n e.pa e.pn e.bs e.h e.kp e.s e.r e.l e.nx e.rm e.got e.far e.cl e.tl e.he e.pl e.du e.tr e.m e.f e.w) (fun z => z = true ↔ b = false ∧ EndP5 e ∧ EndP1 e ∧ EndP2 e ∧ EndP3 e ∧ EndP4 e) := fun h => (spec_end1 e true hl (fun q => by simp at q)).mono fun z hz => by
    rw [hz]
    exact ⟨fun q => by simp at q, fun q => absurd q.2.1 h⟩
  refine Evx.ite (fun cm => ?_) (fun cm => no (fun q => cm (hz0.trans q.1)))
  have hm : MouthR e.h e.kp e.s e.r e.l = true := hz0.symm.trans cm
  have hp := mouth_parts hm
  refine Evx.ite (fun c1 => no (fun q => by have := q.2.1; omega)) (fun c1 => ?_)
  refine Evx.bind (spec_ear_x e.nx e.rm hl) fun z1 hz1 => ?_
  refine Evx.ite (fun ce => ?_) (fun ce => no (fun q => ce (hz1.trans q.2.2.1)))
  have he : EarR e.nx e.rm e.got e.far = true := hz1.symm.trans ce
  rw [spec_ClockOk_eq, spec_in_eq, spec_in_eq]
  refine Evx.sb (Evx.ite (fun cc => ?_) (fun cc => no (fun q => cc (decide_eq_true q.2.2.2.1))))
  refine Evx.sb (Evx.ite (fun cd => ?_) (fun cd => no (fun q => cd (decide_eq_true q.2.2.2.2.1))))
  have cd' := of_decide_eq_true cd
  refine Evx.sb ?_
  refine (spec_end1 e _ hl (fun q => ⟨⟨⟨ear_far he, fun h => by omega, cd'.1, (of_decide_eq_true (by simpa using q) : 0 ≤ e.tr ∧ e.tr ≤ 8).1⟩, hp.2.2.1.1, hy.1, hy.2⟩, hp.2.2.1.2⟩)).mono fun z hz => ?_
  rw [hz]
  constructor
  · intro q
    exact ⟨hb, ⟨hm, by omega, he, of_decide_eq_true cc, cd', of_decide_eq_true (by simpa using q.1)⟩, q.2⟩
  · intro q
    exact ⟨by rw [decide_eq_true q.2.1.2.2.2.2.2]; rfl, q.2.2⟩
theorem spec_end_x (e : EndV) (hl : (e.far.length : Int) ≤ 1000000000) : Evx (fun k => spec_EndOk.f k e.st e.ad e.n e.pa e.pn e.bs e.h e.kp e.s e.r e.l e.nx e.rm e.got e.far e.cl e.tl e.he e.pl e.du e.tr e.m e.f e.w) (fun z => z = true ↔ EndP e) := by
  unfold spec_EndOk.f
  have no : ¬ EndP6 e → Evx (fun k => spec_EndOk.j0 k true e.st e.ad e.n e.pa e.pn e.bs e.h e.kp e.s e.r e.l e.nx e.rm e.got e.far e.cl e.tl e.he e.pl e.du e.tr e.m e.f e.w) (fun z => z = true ↔ EndP e) := fun h => (spec_end0 e true hl (fun q => by simp at q)).mono fun z hz => by
    rw [hz]
    exact ⟨fun q => by simp at q, fun q => absurd q.1 h⟩
  rw [spec_in_eq, spec_in_eq, spec_in_eq, spec_in_eq, spec_in_eq, spec_in_eq]
  refine Evx.sb (Evx.ite (fun c1 => ?_) (fun c1 => no (fun q => c1 (decide_eq_true q.1))))
  refine Evx.sb (Evx.ite (fun c2 => ?_) (fun c2 => no (fun q => c2 (decide_eq_true q.2.1))))
  refine Evx.sb (Evx.ite (fun c3 => ?_) (fun c3 => no (fun q => c3 (decide_eq_true q.2.2.2.1))))
  refine Evx.sb (Evx.ite (fun c4 => ?_) (fun c4 => no (fun q => c4 (decide_eq_true q.2.2.1))))
  refine Evx.sb (Evx.ite (fun c5 => ?_) (fun c5 => no (fun q => c5 (decide_eq_true q.2.2.2.2.1))))
  refine Evx.sb ?_
  refine (spec_end0 e _ hl (fun q => of_decide_eq_true (by simpa using q))).mono fun z hz => ?_
  rw [hz]
  constructor
  · intro q
    exact ⟨⟨of_decide_eq_true c1, of_decide_eq_true c2, of_decide_eq_true c4, of_decide_eq_true c3, of_decide_eq_true c5, of_decide_eq_true (by simpa using q.1)⟩, q.2⟩
  · intro q
    exact ⟨by rw [decide_eq_true q.1.2.2.2.2.2]; rfl, q.2⟩

theorem impl_word_eq (a : Int) : impl_word.f a = some (decide (0 ≤ a ∧ a ≤ 65535)) := by unfold impl_word.f; rw [impl_in_eq]; rfl
theorem impl_port_eq (a : Int) : impl_portOk.f a = some (decide (1 ≤ a ∧ a ≤ 255)) := by unfold impl_portOk.f; rw [impl_in_eq]; rfl

/-- The parts of an end, side by side. -/
def tup (e : EndV) : Int × Int × Int × Int × Int × Int × Int × List Int × Int × Int × (List S69) × Int × Int × List Int × (List S59) × Bool × Bool × Bool × Int × Int × Int × Int × Int × Int := (e.st, e.ad, e.n, e.pa, e.pn, e.bs, e.h, e.kp, e.s, e.r, e.l, e.nx, e.rm, e.got, e.far, e.cl, e.tl, e.he, e.pl, e.du, e.tr, e.m, e.f, e.w)

/-- An end that keeps nothing. -/
def nilE (ad n bs h rm pl w : Int) : EndV := ⟨0, ad, n, 0, 0, bs, h, [], 0, 0, [], 0, rm, [], [], false, false, false, pl, 0, 0, 0, 0, w⟩
/-- What an end may be made of. -/
def NewP (a n b rm : Int) : Prop := (0 ≤ a ∧ a ≤ 65535) ∧ (1 ≤ n ∧ n ≤ 255) ∧ (0 ≤ b ∧ b ≤ 65535) ∧ (1 ≤ rm ∧ rm ≤ 32)
theorem new_end {a n b rm : Int} : EndP (nilE a n b (wrap64 (b + 1)) rm (-1) 24) ↔ NewP a n b rm := by
  constructor
  · rintro ⟨h6, h5, -⟩
    have hr := (ear_in h5.2.2.1).2.1
    exact ⟨h6.2.1, h6.2.2.1, h6.2.2.2.2.2, hr⟩
  · rintro ⟨h1, h2, h3, h4⟩
    have w1 : wrap64 (b + 1) = b + 1 := by unfold wrap64; omega
    rw [w1]
    refine ⟨⟨(show (0 : Int) ≤ 0 ∧ (0 : Int) ≤ 5 from by decide), h1, h2, (show (0 : Int) ≤ 0 ∧ (0 : Int) ≤ 65535 from by decide), (show (0 : Int) ≤ 0 ∧ (0 : Int) ≤ 255 from by decide), h3⟩, ⟨?_, ?_, ?_, ?_, (show (0 : Int) ≤ 0 ∧ (0 : Int) ≤ 1000000 from by decide), (show (0 : Int) ≤ 0 ∧ (0 : Int) ≤ 8 from by decide)⟩, ⟨fun h => by simp [nilE] at h, fun h => by simp [nilE] at h⟩, fun _ => ⟨rfl, rfl, rfl⟩, ⟨by simp [nilE], Or.inr ⟨rfl, Or.inl rfl⟩⟩, Or.inl rfl⟩
    · show MouthR (b + 1) [] 0 0 [] = true
      unfold MouthR RgR
      rw [decide_eq_true (show 0 ≤ b + 1 ∧ b + 1 ≤ 1000000 by omega)]
      simp
    · show b < b + 1
      omega
    · show EarR 0 rm [] [] = true
      unfold EarR FarL
      rw [decide_eq_true h4]
      simp
      omega
    · show Cok 0 0 24
      unfold Cok
      omega
theorem impl_new_x {a n b rm : Int} (h : NewP a n b rm) : impl_EndNew.f a n b rm = some (tup (nilE a n b (wrap64 (b + 1)) rm (-1) 24)) := by
  unfold impl_EndNew.f impl_ClockNew.f
  rw [impl_word_eq, impl_port_eq, impl_word_eq, impl_in_eq, decide_eq_true h.1, decide_eq_true h.2.1, decide_eq_true h.2.2.1, decide_eq_true h.2.2.2]
  rfl
theorem impl_new_no {a n b rm : Int} (h : ¬ NewP a n b rm) : impl_EndNew.f a n b rm = some (tup (nilE 0 0 0 0 0 0 0)) := by
  unfold impl_EndNew.f impl_ClockNew.f
  rw [impl_word_eq, impl_port_eq, impl_word_eq, impl_in_eq]
  by_cases c1 : 0 ≤ a ∧ a ≤ 65535
  · rw [decide_eq_true c1]
    by_cases c2 : 1 ≤ n ∧ n ≤ 255
    · rw [decide_eq_true c2]
      by_cases c3 : 0 ≤ b ∧ b ≤ 65535
      · rw [decide_eq_true c3]
        have c4 : ¬ (1 ≤ rm ∧ rm ≤ 32) := fun q => h ⟨c1, c2, c3, q⟩
        rw [decide_eq_false c4]
        rfl
      · rw [decide_eq_false c3]; rfl
    · rw [decide_eq_false c2]; rfl
  · rw [decide_eq_false c1]; rfl
theorem spec_new_x {a n b rm : Int} (h : NewP a n b rm) : Evx (fun k => spec_EndNew.f k a n b rm) (fun z => z = tup (nilE a n b (wrap64 (b + 1)) rm (-1) 24)) := by
  unfold spec_EndNew.f spec_ClockNew.f
  refine Evx.sb ?_
  refine Evx.bind (spec_end_x (nilE a n b (wrap64 (b + 1)) rm (-1) 24) (by simp [nilE])) fun t ht => ?_
  exact Evx.pos (ht.2 (new_end.2 h)) (Evx.now rfl)
theorem spec_new_no {a n b rm : Int} (h : ¬ NewP a n b rm) : Evx (fun k => spec_EndNew.f k a n b rm) (fun z => z = tup (nilE 0 0 0 0 0 0 0)) := by
  unfold spec_EndNew.f spec_ClockNew.f
  refine Evx.sb ?_
  refine Evx.bind (spec_end_x (nilE a n b (wrap64 (b + 1)) rm (-1) 24) (by simp [nilE])) fun t ht => ?_
  exact Evx.neg (fun q => h (new_end.1 (ht.1 q))) (Evx.now rfl)

theorem eqB_l {l : List Int} (hl : (l.length : Int) ≤ 100000000) (d : Nat) : ∀ i : Int, 0 ≤ i → i ≤ l.length → l.length - i = d →
    Evx (fun k => laws_eqByteS.l0 k l l i) (fun r => r = true) := by
  induction d with
  | zero =>
    intro i i0 hi hd
    exact Evx.step (fun k => by rw [laws_eqByteS.l0]) (Evx.neg (by omega) (Evx.now rfl))
  | succ d ih =>
    intro i i0 hi hd
    refine Evx.step (fun k => by rw [laws_eqByteS.l0]) (Evx.pos (by omega) (Evx.pos i0 (Evx.pos (by omega) (Evx.pos rfl ?_))))
    have e : wrap64 (i + 1) = i + 1 := by unfold wrap64; omega
    rw [e]
    exact ih _ (by omega) (by omega) (by omega)
theorem eqB_x {l : List Int} (hl : (l.length : Int) ≤ 100000000) : Evx (fun k => laws_eqByteS.f k l l) (fun r => r = true) := by
  unfold laws_eqByteS.f
  exact Evx.pos rfl (eqB_l hl l.length 0 (by omega) (by omega) (by omega))

theorem rd_set {l : List Int} {i j v : Int} (i0 : 0 ≤ i) (i1 : i < l.length) (j0 : 0 ≤ j) : rd (l.set i.toNat v) j = if i = j then v else rd l j := by
  have hi : i.toNat < l.length := by omega
  unfold rd
  rw [List.getD_eq_getElem?_getD, List.getD_eq_getElem?_getD, List.getElem?_set]
  by_cases h : i = j
  · subst h; rw [if_pos rfl, if_pos hi, if_pos rfl]; rfl
  · rw [if_neg (by omega), if_neg h]
/-- Every element is the next number. -/
def Mkd (a : Int) (l : List Int) : Prop := ∀ j : Int, 0 ≤ j → j < l.length → rd l j = (a + j) % 256
theorem mark_l {n : Nat} (hn : (n : Int) ≤ 100000000) {a : Int} (a0 : 0 ≤ a) (a1 : a ≤ 100000000) (d : Nat) : ∀ (x : List Int) (i : Int), x.length = n → 0 ≤ i → i ≤ n → n - i = d → (∀ j : Int, 0 ≤ j → j < i → rd x j = (a + j) % 256) →
    Evx (fun k => laws_markByteS.l0 k x (a + i) i) (fun r => r.1 = a + n ∧ r.2.length = n ∧ Mkd a r.2) := by
  induction d with
  | zero =>
    intro x i hx i0 hi hd H
    have e : i = n := by omega
    refine Evx.step (fun k => by rw [laws_markByteS.l0]) (Evx.neg (by omega) (Evx.now ⟨by omega, hx, fun j j0 j1 => H j j0 (by have : j < x.length := j1; omega)⟩))
  | succ d ih =>
    intro x i hx i0 hi hd H
    refine Evx.step (fun k => by rw [laws_markByteS.l0]) (Evx.pos (by omega) (Evx.pos i0 ?_))
    have e1 : wrap64 (i + 1) = i + 1 := by unfold wrap64; omega
    have e2 : wrap64 (a + i + 1) = a + (i + 1) := by unfold wrap64; omega
    rw [e1, e2]
    refine ih _ _ (by simp [hx]) (by omega) (by omega) (by omega) fun j j0 j1 => ?_
    rw [rd_set i0 (by omega) j0]
    by_cases h : i = j
    · rw [if_pos h, h]
    · rw [if_neg h]; exact H j j0 (by omega)
theorem mark_x {l : List Int} (hl : (l.length : Int) ≤ 100000000) {a : Int} (a0 : 0 ≤ a) (a1 : a ≤ 100000000) :
    Evx (fun k => laws_markByteS.f k l a) (fun r => r.1 = a + l.length ∧ r.2.length = l.length ∧ Mkd a r.2) := by
  unfold laws_markByteS.f
  have := mark_l hl a0 a1 l.length l 0 rfl (by omega) (by omega) (by omega) (fun j j0 j1 => by omega)
  simpa using this
theorem held_l {l : List Int} (hl : (l.length : Int) ≤ 100000000) {a : Int} (a0 : 0 ≤ a) (a1 : a ≤ 100000000) (H : Mkd a l) (d : Nat) : ∀ (i : Int), 0 ≤ i → i ≤ l.length → l.length - i = d →
    Evx (fun k => laws_heldByteS.l0 k l (a + i) i) (fun r => r = a + l.length) := by
  induction d with
  | zero =>
    intro i i0 hi hd
    refine Evx.step (fun k => by rw [laws_heldByteS.l0]) (Evx.neg (by omega) (Evx.now (by omega)))
  | succ d ih =>
    intro i i0 hi hd
    refine Evx.step (fun k => by rw [laws_heldByteS.l0]) (Evx.pos (by omega) (Evx.pos i0 (Evx.pos (H i i0 (by omega)) ?_)))
    have e1 : wrap64 (i + 1) = i + 1 := by unfold wrap64; omega
    have e2 : wrap64 (a + i + 1) = a + (i + 1) := by unfold wrap64; omega
    rw [e1, e2]
    exact ih _ (by omega) (by omega) (by omega)
theorem held_x {l : List Int} (hl : (l.length : Int) ≤ 100000000) {a : Int} (a0 : 0 ≤ a) (a1 : a ≤ 100000000) (H : Mkd a l) :
    Evx (fun k => laws_heldByteS.f k l a) (fun r => r = a + l.length) := by
  unfold laws_heldByteS.f
  have := held_l hl a0 a1 H l.length 0 (by omega) (by omega) (by omega)
  simpa using this

theorem eqr_l2 {l : List S69} (hl : (l.length : Int) ≤ 100000000) (d : Nat) : ∀ i : Int, 0 ≤ i → i ≤ l.length → l.length - i = d →
    Evx (fun k => laws_eqRangeS.l0 k l l i) (fun r => r = true) := by
  induction d with
  | zero =>
    intro i i0 hi hd
    refine Evx.step (fun k => by rw [laws_eqRangeS.l0]) ?_
    exact Evx.neg (by omega) (Evx.now rfl)
  | succ d ih =>
    intro i i0 hi hd
    have e : wrap64 (i + 1) = i + 1 := by unfold wrap64; omega
    refine Evx.step (fun k => by rw [laws_eqRangeS.l0]) (Evx.pos (by omega) (Evx.pos i0 (Evx.pos (by omega) ?_)))
    have he : ∀ x : S69, laws_eqRange.f x.f0 x.f1 x.f0 x.f1 = some true := by intro x; unfold laws_eqRange.f; simp
    rw [he, e]
    exact Evx.sb (Evx.pos rfl (ih _ (by omega) (by omega) (by omega)))
theorem eqmouth_x (h s r : Int) {kp : List Int} {l : List S69} (hk : (kp.length : Int) ≤ 100000000) (hl : (l.length : Int) ≤ 100000000) : Evx (fun k => laws_eqMouth.f k h kp s r l h kp s r l) (fun z => z = true) := by
  unfold laws_eqMouth.f
  refine Evx.pos rfl (Evx.bind (eqB_x hk) fun y hy => Evx.pos hy (Evx.pos rfl (Evx.pos rfl ?_)))
  unfold laws_eqRangeS.f
  exact Evx.bind (Evx.pos rfl (eqr_l2 hl l.length 0 (by omega) (by omega) (by omega))) fun z hz => Evx.pos hz (Evx.now rfl)
theorem eqe_l {l : List S59} (hl : (l.length : Int) ≤ 100000000) (d : Nat) : ∀ i : Int, 0 ≤ i → i ≤ l.length → l.length - i = d →
    Evx (fun k => laws_eqEarlyS.l0 k l l i) (fun r => r = true) := by
  induction d with
  | zero =>
    intro i i0 hi hd
    refine Evx.step (fun k => by rw [laws_eqEarlyS.l0]) ?_
    exact Evx.neg (by omega) (Evx.now rfl)
  | succ d ih =>
    intro i i0 hi hd
    have e : wrap64 (i + 1) = i + 1 := by unfold wrap64; omega
    refine Evx.step (fun k => by rw [laws_eqEarlyS.l0]) (Evx.pos (by omega) (Evx.pos i0 (Evx.pos (by omega) ?_)))
    have he : ∀ x : S59, laws_eqEarly.f x.f0 x.f1 x.f0 x.f1 = some true := by intro x; unfold laws_eqEarly.f; simp
    rw [he, e]
    exact Evx.sb (Evx.pos rfl (ih _ (by omega) (by omega) (by omega)))
theorem eqear_x (nx rm : Int) {got : List Int} {far : List S59} (hk : (got.length : Int) ≤ 100000000) (hl : (far.length : Int) ≤ 100000000) : Evx (fun k => laws_eqEar.f k nx rm got far nx rm got far) (fun z => z = true) := by
  unfold laws_eqEar.f
  refine Evx.pos rfl (Evx.pos rfl (Evx.bind (eqB_x hk) fun y hy => Evx.pos hy ?_))
  unfold laws_eqEarlyS.f
  exact Evx.bind (Evx.pos rfl (eqe_l hl far.length 0 (by omega) (by omega) (by omega))) fun z hz => Evx.pos hz (Evx.now rfl)
theorem eqclock_x (m f w : Int) : laws_eqClock.f m f w m f w = some true := by
  unfold laws_eqClock.f
  rw [if_pos rfl, if_pos rfl, if_pos rfl]
theorem eqend_x (e : EndV) (h1 : (e.kp.length : Int) ≤ 100000000) (h2 : (e.l.length : Int) ≤ 100000000) (h3 : (e.got.length : Int) ≤ 100000000) (h4 : (e.far.length : Int) ≤ 100000000) : Evx (fun k => laws_eqEnd.f k e.st e.ad e.n e.pa e.pn e.bs e.h e.kp e.s e.r e.l e.nx e.rm e.got e.far e.cl e.tl e.he e.pl e.du e.tr e.m e.f e.w e.st e.ad e.n e.pa e.pn e.bs e.h e.kp e.s e.r e.l e.nx e.rm e.got e.far e.cl e.tl e.he e.pl e.du e.tr e.m e.f e.w) (fun z => z = true) := by
  unfold laws_eqEnd.f
  refine Evx.pos rfl (Evx.pos rfl (Evx.pos rfl (Evx.pos rfl (Evx.pos rfl (Evx.pos rfl ?_)))))
  refine Evx.bind (eqmouth_x e.h e.s e.r h1 h2) fun t1 q1 => Evx.pos q1 ?_
  refine Evx.bind (eqear_x e.nx e.rm h3 h4) fun t2 q2 => Evx.pos q2 ?_
  refine Evx.neg (by simp) (Evx.neg (by simp) (Evx.neg (by simp) (Evx.pos rfl (Evx.pos rfl (Evx.pos rfl ?_)))))
  rw [eqclock_x]
  exact Evx.sb (Evx.pos rfl (Evx.now rfl))

theorem mark_nil : Evx (fun k => laws_markByteS.f k [] 1) (fun z => z = (1, [])) := by
  unfold laws_markByteS.f
  exact Evx.step (fun k => by rw [laws_markByteS.l0]) (Evx.neg (by simp) (Evx.now rfl))
theorem held_nil : Evx (fun k => laws_heldByteS.f k [] 1) (fun z => z = 1) := by
  unfold laws_heldByteS.f
  exact Evx.step (fun k => by rw [laws_heldByteS.l0]) (Evx.neg (by simp) (Evx.now rfl))
theorem markend_nil (a b c d x y h s r nx rm : Int) (q1 q2 q3 : Bool) (pl du tr m f w : Int) : Evx (fun k => laws_markEnd.f k a b c d x y h [] s r [] nx rm [] [] q1 q2 q3 pl du tr m f w 1) (fun z => z = (1, [], [], [], [])) := by
  unfold laws_markEnd.f laws_markMouth.f laws_markEar.f laws_markRangeS.f laws_markEarlyS.f
  refine Evx.bind (P := fun z => z = (1, [], [])) (Evx.bind mark_nil fun z1 e1 => ?_) fun z2 e2 => ?_
  · subst e1
    refine Evx.bind (P := fun z => z = (1, [])) (Evx.step (fun k => by rw [laws_markRangeS.l0]) (Evx.neg (by simp) (Evx.now rfl))) fun z3 e3 => ?_
    subst e3
    exact Evx.now rfl
  · subst e2
    refine Evx.bind (P := fun z => z = (1, [], [])) (Evx.bind mark_nil fun z1 e1 => ?_) fun z2 e2 => ?_
    · subst e1
      refine Evx.bind (P := fun z => z = (1, [])) (Evx.step (fun k => by rw [laws_markEarlyS.l0]) (Evx.neg (by simp) (Evx.now rfl))) fun z3 e3 => ?_
      subst e3
      exact Evx.now rfl
    · subst e2
      exact Evx.now rfl
theorem heldend_nil (a b c d x y h s r nx rm : Int) (q1 q2 q3 : Bool) (pl du tr m f w : Int) : Evx (fun k => laws_heldEnd.f k a b c d x y h [] s r [] nx rm [] [] q1 q2 q3 pl du tr m f w 1) (fun z => z = 1) := by
  unfold laws_heldEnd.f laws_heldMouth.f laws_heldEar.f laws_heldRangeS.f laws_heldEarlyS.f
  refine Evx.bind (P := fun z => z = 1) (Evx.bind held_nil fun z1 e1 => ?_) fun z2 e2 => ?_
  · subst e1
    refine Evx.neg (by decide) (Evx.bind (P := fun z => z = 1) (Evx.step (fun k => by rw [laws_heldRangeS.l0]) (Evx.neg (by simp) (Evx.now rfl))) fun z3 e3 => ?_)
    subst e3
    exact Evx.neg (by decide) (Evx.now rfl)
  · subst e2
    refine Evx.neg (by decide) (Evx.bind (P := fun z => z = 1) (Evx.bind held_nil fun z1 e1 => ?_) fun z2 e2 => ?_)
    · subst e1
      refine Evx.neg (by decide) (Evx.bind (P := fun z => z = 1) (Evx.step (fun k => by rw [laws_heldEarlyS.l0]) (Evx.neg (by simp) (Evx.now rfl))) fun z3 e3 => ?_)
      subst e3
      exact Evx.neg (by decide) (Evx.now rfl)
    · subst e2
      exact Evx.neg (by decide) (Evx.now rfl)
theorem new_law {a n b rm : Int} (ad n' bs h' rm' pl w : Int) (hi : impl_EndNew.f a n b rm = some (tup (nilE ad n' bs h' rm' pl w))) (hs : Evx (fun k => spec_EndNew.f k a n b rm) (fun z => z = tup (nilE ad n' bs h' rm' pl w))) : Evx (fun k => laws_FnExactEndNew.f k a n b rm) (fun z => z = true) := by
  unfold laws_FnExactEndNew.f
  refine Evx.bind hs fun r1 e1 => ?_
  subst e1
  rw [hi]
  refine Evx.sb (Evx.bind (eqend_x (nilE ad n' bs h' rm' pl w) (by simp [nilE]) (by simp [nilE]) (by simp [nilE]) (by simp [nilE])) fun t1 h1 => Evx.pos h1 ?_)
  refine Evx.bind (markend_nil 0 ad n' 0 0 bs h' 0 0 0 rm' false false false pl 0 0 0 0 w) fun t2 e2 => ?_
  subst e2
  refine Evx.bind (heldend_nil 0 ad n' 0 0 bs h' 0 0 0 rm' false false false pl 0 0 0 0 w) fun t3 e3 => ?_
  subst e3
  refine Evx.neg (by decide) (Evx.pos rfl (Evx.sb ?_))
  refine Evx.bind (eqend_x (nilE ad n' bs h' rm' pl w) (by simp [nilE]) (by simp [nilE]) (by simp [nilE]) (by simp [nilE])) fun t4 h4 => Evx.pos h4 ?_
  refine Evx.bind (heldend_nil 0 ad n' 0 0 bs h' 0 0 0 rm' false false false pl 0 0 0 0 w) fun t5 e5 => ?_
  subst e5
  exact Evx.neg (by decide) (Evx.pos rfl (Evx.now rfl))
theorem FnExactEndNew : laws_FnExactEndNew.Pure := by
  intro a n b rm _ _ _ _
  refine Evx.law (g := fun f => laws_FnExactEndNew.f f a n b rm) ?_
  by_cases h : NewP a n b rm
  · exact new_law _ _ _ _ _ _ _ (impl_new_x h) (spec_new_x h)
  · exact new_law _ _ _ _ _ _ _ (impl_new_no h) (spec_new_no h)

end Go.Proofs.Ytpadgacbkkjjfaa.Pure
