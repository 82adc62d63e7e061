/- The plain statement of FnExactMouthAgain: for all arguments, the law's function comes to true; there is no condition beyond those it names. -/
import Derived.Test.YtpgimaohkfilfaaShpFnExactMouthAgain
set_option linter.unusedVariables false
set_option linter.unusedSimpArgs false
set_option maxRecDepth 100000
namespace Go.Proofs.Ytpgimaohkfilfaa.Pure
open Go.RowKit Go.Proofs.Ytpgimaohkfilfaa.GFnExactMouthAgain Go.Proofs.YtpgimaohkfilfaaU.PrintWords Go.Proofs.YtpgimaohkfilfaaU.PrintLast Go.Proofs.YtpgimaohkfilfaaU.PrintMore

theorem w64 {x : Int} (h0 : -9223372036854775808 ≤ x) (h1 : x ≤ 9223372036854775807) : wrap64 x = x := by unfold wrap64; omega

/-- It comes to an answer of which P holds. -/
def Evx {α : Type} (g : Nat → Option α) (P : α → Prop) : Prop := ∃ r, Ev g r ∧ P r
theorem Evx.bind {α β : Type} {g : Nat → Option α} {f : Nat → α → Option β} {P : α → Prop} {Q : β → Prop} (h : Evx g P) (k : ∀ a, P a → Evx (fun n => f n a) Q) : Evx (fun n => (g n).bind (f n)) Q := by
  obtain ⟨a, ha, pa⟩ := h
  obtain ⟨r, hr, qr⟩ := k a pa
  exact ⟨r, Ev.bind ha hr, qr⟩
theorem Evx.now {α : Type} {P : α → Prop} {r : α} (h : P r) : Evx (fun _ => some r) P := ⟨r, Ev.now r, h⟩
theorem Evx.pos {α : Type} {c : Prop} [Decidable c] {f g : Nat → Option α} {P : α → Prop} (hc : c) (h : Evx f P) : Evx (fun n => if c then f n else g n) P := by
  simp only [if_pos hc]; exact h
theorem Evx.neg {α : Type} {c : Prop} [Decidable c] {f g : Nat → Option α} {P : α → Prop} (hc : ¬ c) (h : Evx g P) : Evx (fun n => if c then f n else g n) P := by
  simp only [if_neg hc]; exact h
theorem Evx.ite {α : Type} {c : Prop} [Decidable c] {f g : Nat → Option α} {P : α → Prop} (h : c → Evx f P) (k : ¬ c → Evx g P) : Evx (fun n => if c then f n else g n) P := by
  by_cases hc : c
  · exact Evx.pos hc (h hc)
  · exact Evx.neg hc (k hc)
theorem Evx.step {α : Type} {g f : Nat → Option α} {P : α → Prop} (h : ∀ k, g (k + 1) = f k) (k : Evx f P) : Evx g P := by
  obtain ⟨r, hr, p⟩ := k
  exact ⟨r, Ev.step h hr, p⟩
theorem Evx.mono {α : Type} {g : Nat → Option α} {P Q : α → Prop} (h : Evx g P) (k : ∀ r, P r → Q r) : Evx g Q := by
  obtain ⟨r, hr, p⟩ := h
  exact ⟨r, hr, k r p⟩
theorem Evx.law {g : Nat → Option Bool} (h : Evx g (fun r => r = true)) : ∃ k, g k = some true := by
  obtain ⟨r, hr, rfl⟩ := h
  exact hr.rounds
theorem Evx.of {α : Type} {g : Nat → Option α} {r : α} {P : α → Prop} (hg : ∀ k, LeO (g k) (g (k + 1))) {k : Nat} (h : g k = some r) (p : P r) : Evx g P := ⟨r, Ev.of hg h, p⟩

/-- All are bytes. -/
def Byt (l : List Int) : Prop := ∀ x ∈ l, 0 ≤ x ∧ x ≤ 255
theorem byt_wf {l : List Int} (h : ∀ x ∈ l, (Lit.int .u8 x).wf = true) : Byt l := by
  intro x hx
  have := h x hx
  simp [Lit.wf, IntKind.min, IntKind.max, IntKind.signed, IntKind.bits] at this
  omega
theorem byt_rd {l : List Int} (h : Byt l) (i : Int) : 0 ≤ rd l i ∧ rd l i ≤ 255 := by
  unfold rd
  by_cases hi : i.toNat < l.length
  · rw [List.getD_eq_getElem?_getD, List.getElem?_eq_getElem hi]; exact h _ (List.getElem_mem hi)
  · rw [List.getD_eq_getElem?_getD, List.getElem?_eq_none (by omega)]; simp
theorem xor_nn {x y : Int} (hx : 0 ≤ x) (hx1 : x < 4611686018427387904) (hy : 0 ≤ y) (hy1 : y < 4611686018427387904) : 0 ≤ Go.bits .xor .i64 x y := by
  obtain ⟨a, rfl⟩ := Int.eq_ofNat_of_zero_le hx
  obtain ⟨b, rfl⟩ := Int.eq_ofNat_of_zero_le hy
  have ha : a < 2 ^ 62 := by omega
  have hb : b < 2 ^ 62 := by omega
  have hc := Nat.xor_lt_two_pow ha hb
  unfold Go.bits
  simp only [BitVec.ofInt_natCast, BitVec.toNat_xor, BitVec.toNat_ofNat]
  rw [IntKind.wrap_i64]
  have e : IntKind.i64.bits = 64 := rfl
  rw [e, Nat.mod_eq_of_lt (by omega), Nat.mod_eq_of_lt (by omega)]
  omega

theorem impl_in_eq (a b c : Int) : impl_in.f a b c = some (decide (b ≤ a ∧ a ≤ c)) := by
  unfold impl_in.f
  by_cases h : b ≤ a
  · rw [if_pos h]; simp [h]
  · rw [if_neg (by omega)]; simp [h]
theorem spec_in_eq (a b c : Int) : spec_l1In.f a b c = some (decide (b ≤ a ∧ a ≤ c)) := by
  unfold spec_l1In.f
  by_cases h : b ≤ a
  · rw [if_pos h]; simp [h]
  · rw [if_neg (by omega)]; simp [h]

theorem byt_take {l : List Int} (h : Byt l) (n : Nat) : Byt (l.take n) := fun x hx => h x (List.mem_of_mem_take hx)
theorem byt_drop {l : List Int} (h : Byt l) (n : Nat) : Byt (l.drop n) := fun x hx => h x (List.mem_of_mem_drop hx)
theorem byt_app {l m : List Int} (h : Byt l) (k : Byt m) : Byt (l ++ m) := fun x hx => (List.mem_append.1 hx).elim (h x) (k x)

/-- A range that is in place behind another. -/
def Q (last tt : Int) (r : S43) : Bool := decide (r.f0 > last) && decide (r.f1 > r.f0) && decide (r.f1 ≤ tt)
/-- At most two ranges in place. -/
def RgR (h t : Int) : List S43 → Bool
  | [] => true
  | [a] => Q h t a
  | [a, b] => Q h t a && Q a.f1 t b
  | _ => false
theorem q_true {last tt : Int} {r : S43} (h : Q last tt r = true) : r.f0 > last ∧ r.f1 > r.f0 ∧ r.f1 ≤ tt := by
  unfold Q at h; simp only [Bool.and_eq_true, decide_eq_true_eq] at h; exact ⟨h.1.1, h.1.2, h.2⟩
theorem q_of {last tt : Int} {r : S43} (h0 : r.f0 > last) (h1 : r.f1 > r.f0) (h2 : r.f1 ≤ tt) : Q last tt r = true := by
  unfold Q; simp only [Bool.and_eq_true, decide_eq_true_eq]; exact ⟨⟨h0, h1⟩, h2⟩
theorem q_no {last tt : Int} {r : S43} (h : ¬ (r.f0 > last ∧ r.f1 > r.f0 ∧ r.f1 ≤ tt)) : Q last tt r = false := by
  cases e : Q last tt r with
  | false => rfl
  | true => exact absurd (q_true e) h
theorem rstep {t last : Int} {out l : List S43} {i : Int} {P : List S43 → Prop} (i0 : 0 ≤ i) (i1 : i < l.length) (hl : l.length ≤ 2) (ho : out.length < 2)
    (h1 : Q last t (rd_T43 l i) = true → Evx (fun k => impl_rangesOk.l0 k t (out ++ [rd_T43 l i]) (rd_T43 l i).f1 l (l.length : Int) (i + 1)) P)
    (h2 : Q last t (rd_T43 l i) = false → Evx (fun k => impl_rangesOk.l0 k t out last l (l.length : Int) (i + 1)) P) : Evx (fun k => impl_rangesOk.l0 k t out last l (l.length : Int) i) P := by
  have e : wrap64 (i + 1) = i + 1 := by unfold wrap64; omega
  refine Evx.step (fun k => by rw [impl_rangesOk.l0]) (Evx.pos i1 (Evx.pos i0 (Evx.pos i1 ?_)))
  rw [e]
  refine Evx.ite (fun c1 => Evx.ite (fun c2 => Evx.ite (fun c3 => Evx.pos (by omega) (Evx.pos (by omega) (h1 (q_of c1 c2 c3)))) (fun c3 => h2 (q_no (fun q => c3 q.2.2)))) (fun c2 => h2 (q_no (fun q => c2 q.2.1)))) (fun c1 => h2 (q_no (fun q => c1 q.1)))
theorem rend {t last : Int} {out l : List S43} (ho : out.length ≤ 2) : Evx (fun k => impl_rangesOk.l0 k t out last l (l.length : Int) (l.length : Int)) (fun r => r = out) := by
  refine Evx.step (fun k => by rw [impl_rangesOk.l0]) (Evx.neg (by omega) ?_)
  unfold impl_Range_42.f
  by_cases c : (out.length : Int) = 0
  · have e : out = [] := List.length_eq_zero_iff.1 (by omega)
    subst e
    rw [if_pos c]; exact Evx.now rfl
  · rw [if_neg c]; simp only [Option.bind_some]; rw [if_pos (by simp; omega)]; exact Evx.now (by simp)
theorem ranges_x (l : List S43) (hl : l.length ≤ 2) (h t : Int) : Evx (fun k => impl_rangesOk.f k l h t) (fun r => (RgR h t l = true → r = l) ∧ (RgR h t l = false → r.length ≠ l.length)) := by
  unfold impl_rangesOk.f
  match l, hl with
  | [], _ => exact (rend (l := []) (by simp)).mono fun r hr => ⟨fun _ => hr, fun q => by simp [RgR] at q⟩
  | [a], _ =>
    refine rstep (l := [a]) (by omega) (by simp) (by simp) (by simp) (fun q => ?_) (fun q => ?_)
    · exact (rend (l := [a]) (by simp)).mono fun r hr => ⟨fun _ => hr, fun q2 => by have q' : Q h t a = true := q; simp [RgR, q'] at q2⟩
    · exact (rend (l := [a]) (by simp)).mono fun r hr => ⟨fun q2 => by have q' : Q h t a = false := q; simp [RgR, q'] at q2, fun _ => by rw [hr]; simp⟩
  | [a, b], _ =>
    refine rstep (l := [a, b]) (by omega) (by simp <;> omega) (by simp) (by simp) (fun q => ?_) (fun q => ?_)
    · refine rstep (l := [a, b]) (by omega) (by simp <;> omega) (by simp) (by simp) (fun p => ?_) (fun p => ?_)
      · exact (rend (l := [a, b]) (by simp)).mono fun r hr => ⟨fun _ => hr, fun q2 => by have q' : Q h t a = true := q; have p' : Q a.f1 t b = true := p; simp [RgR, q', p'] at q2⟩
      · exact (rend (l := [a, b]) (by simp)).mono fun r hr => ⟨fun q2 => by have q' : Q h t a = true := q; have p' : Q a.f1 t b = false := p; simp [RgR, q', p'] at q2, fun _ => by rw [hr]; simp⟩
    · refine rstep (l := [a, b]) (by omega) (by simp <;> omega) (by simp) (by simp) (fun p => ?_) (fun p => ?_)
      · exact (rend (l := [a, b]) (by simp)).mono fun r hr => ⟨fun q2 => by have q' : Q h t a = false := q; simp [RgR, q'] at q2, fun _ => by rw [hr]; simp⟩
      · exact (rend (l := [a, b]) (by simp)).mono fun r hr => ⟨fun q2 => by have q' : Q h t a = false := q; simp [RgR, q'] at q2, fun _ => by rw [hr]; simp⟩
theorem eqr_l {l : List S43} (hl : l.length ≤ 2) (d : Nat) : ∀ i : Int, 0 ≤ i → i ≤ l.length → l.length - i = d → Evx (fun k => impl_Range_31.l0 k l l (l.length : Int) i) (fun r => r = true) := by
  induction d with
  | zero =>
    intro i i0 i1 hd
    refine Evx.step (fun k => by rw [impl_Range_31.l0]) ?_
    exact Evx.neg (by omega) (Evx.now rfl)
  | succ d ih =>
    intro i i0 i1 hd
    have e : wrap64 (i + 1) = i + 1 := by unfold wrap64; omega
    refine Evx.step (fun k => by rw [impl_Range_31.l0]) (Evx.pos (by omega) (Evx.pos i0 (Evx.pos (by omega) (Evx.pos (by omega) (Evx.neg (by simp) ?_)))))
    rw [e]
    exact ih _ (by omega) (by omega) (by omega)
/-- A mouth. -/
def MouthR (h : Int) (kp : List Int) (s r : Int) (l : List S43) : Bool := decide (0 ≤ h ∧ h ≤ 1000000) && decide (kp.length ≤ 32) && decide (0 ≤ s ∧ s ≤ (kp.length : Int)) && decide (0 ≤ r ∧ r ≤ 255) && decide (l.length ≤ 2) && RgR h (h + s) l
theorem impl_mouth_x (h : Int) (kp : List Int) (s r : Int) (l : List S43) : Evx (fun k => impl_MouthOk.f k h kp s r l) (fun z => z = MouthR h kp s r l) := by
  unfold impl_MouthOk.f MouthR
  simp only [impl_in_eq, Option.bind_some]
  refine Evx.ite (fun c1 => ?_) (fun c1 => Evx.now (by simp [c1]))
  refine Evx.ite (fun c2 => ?_) (fun c2 => Evx.now (by rw [decide_eq_false (show ¬ kp.length ≤ 32 by omega)]; simp))
  refine Evx.ite (fun c3 => ?_) (fun c3 => Evx.now (by simp [c3]))
  refine Evx.ite (fun c4 => ?_) (fun c4 => Evx.now (by simp [c4]))
  refine Evx.ite (fun c5 => ?_) (fun c5 => Evx.now (by rw [decide_eq_false (show ¬ l.length ≤ 2 by omega)]; simp))
  have d1 := of_decide_eq_true c1
  have d3 := of_decide_eq_true c3
  have e : wrap64 (h + s) = h + s := by unfold wrap64; omega
  rw [e, c1, c3, c4, decide_eq_true (show kp.length ≤ 32 by omega), decide_eq_true (show l.length ≤ 2 by omega)]
  refine Evx.bind (ranges_x l (by omega) h (h + s)) fun y hy => ?_
  cases q : RgR h (h + s) l with
  | true =>
    have hy := hy.1 q
    subst hy
    unfold impl_Range_31.f
    exact Evx.bind (Evx.pos rfl (eqr_l (by omega) y.length 0 (by omega) (by omega) (by omega))) fun z hz => Evx.now (by rw [hz]; simp)
  | false =>
    have hy := hy.2 q
    unfold impl_Range_31.f
    exact Evx.bind (P := fun z => z = false) (Evx.neg (by omega) (Evx.now rfl)) fun z hz => Evx.now (by rw [hz]; simp)

theorem spec_rg (l : List S43) (hl : l.length ≤ 2) {h s : Int} (h0 : 0 ≤ h) (h1 : h ≤ 1000000) (s0 : 0 ≤ s) (s1 : s ≤ 100) (kp : List Int) (r : Int) : Evx (fun k => spec_MouthOk.l0 k 0 h kp s r l) (fun z => z = RgR h (h + s) l) := by
  have e : wrap64 (h + s) = h + s := by unfold wrap64; omega
  have w1 : wrap64 (0 + 1) = 1 := by unfold wrap64; omega
  have w0 : wrap64 (1 - 1) = 0 := by unfold wrap64; omega
  have w2 : wrap64 (1 + 1) = 2 := by unfold wrap64; omega
  match l, hl with
  | [], _ =>
    refine Evx.step (fun k => by rw [spec_MouthOk.l0]) ?_
    exact Evx.neg (by simp) (Evx.now rfl)
  | [a], _ =>
    have ra : rd_T43 [a] 0 = a := rfl
    refine Evx.step (fun k => by rw [spec_MouthOk.l0]) (Evx.pos (by simp) (Evx.pos (by omega) ?_))
    rw [ra, e, w1]
    unfold RgR
    refine Evx.ite (fun c => Evx.now (q_no (fun q => by omega)).symm) (fun c1 => Evx.ite (fun c => Evx.now (q_no (fun q => by omega)).symm) (fun c2 => Evx.ite (fun c => Evx.now (q_no (fun q => by omega)).symm) (fun c3 => Evx.neg (by omega) ?_)))
    refine Evx.step (fun k => by rw [spec_MouthOk.l0]) ?_
    exact Evx.neg (by simp) (Evx.now (q_of (by omega) (by omega) (by omega)).symm)
  | [a, b], _ =>
    have ra : rd_T43 [a, b] 0 = a := rfl
    have rb : rd_T43 [a, b] 1 = b := rfl
    refine Evx.step (fun k => by rw [spec_MouthOk.l0]) (Evx.pos (by simp) (Evx.pos (by omega) ?_))
    rw [ra, e, w1]
    show Evx _ (fun z => z = (Q h (h + s) a && Q a.f1 (h + s) b))
    have no : ¬ (a.f0 > h ∧ a.f1 > a.f0 ∧ a.f1 ≤ h + s) → false = (Q h (h + s) a && Q a.f1 (h + s) b) := fun q => by rw [q_no q]; rfl
    refine Evx.ite (fun c => Evx.now (no (fun q => by omega))) (fun c1 => Evx.ite (fun c => Evx.now (no (fun q => by omega))) (fun c2 => Evx.ite (fun c => Evx.now (no (fun q => by omega))) (fun c3 => Evx.neg (by omega) ?_)))
    rw [q_of (show a.f0 > h by omega) (by omega) (show a.f1 ≤ h + s by omega), Bool.true_and]
    refine Evx.step (fun k => by rw [spec_MouthOk.l0]) (Evx.pos (by simp) (Evx.pos (by omega) ?_))
    rw [rb, e, w0, ra, w2]
    refine Evx.ite (fun c => Evx.now (q_no (fun q => by omega)).symm) (fun d1 => Evx.ite (fun c => Evx.now (q_no (fun q => by omega)).symm) (fun d2 => Evx.ite (fun c => Evx.now (q_no (fun q => by omega)).symm) (fun d3 => Evx.pos (by omega) (Evx.pos (by omega) (Evx.pos (by simp) (Evx.ite (fun c => Evx.now (q_no (fun q => by omega)).symm) (fun d4 => ?_)))))))
    refine Evx.step (fun k => by rw [spec_MouthOk.l0]) ?_
    exact Evx.neg (by simp) (Evx.now (q_of (by omega) (by omega) (by omega)).symm)
theorem spec_mouth_x (h : Int) (kp : List Int) (s r : Int) (l : List S43) : Evx (fun k => spec_MouthOk.f k h kp s r l) (fun z => z = MouthR h kp s r l) := by
  unfold spec_MouthOk.f MouthR
  simp only [spec_in_eq, Option.bind_some]
  have no : Evx (fun k => spec_MouthOk.j0 k true h kp s r l) (fun z => z = false) := by
    refine Evx.step (fun k => by rw [spec_MouthOk.j0]) ?_
    exact Evx.pos rfl (Evx.now rfl)
  refine Evx.ite (fun c1 => ?_) (fun c1 => no.mono fun z hz => by rw [hz]; simp [c1])
  refine Evx.ite (fun c2 => no.mono fun z hz => by rw [hz, decide_eq_false (show ¬ kp.length ≤ 32 by omega)]; simp) (fun c2 => ?_)
  refine Evx.ite (fun c3 => ?_) (fun c3 => no.mono fun z hz => by rw [hz]; simp [c3])
  refine Evx.ite (fun c4 => ?_) (fun c4 => no.mono fun z hz => by rw [hz]; simp [c4])
  have d1 := of_decide_eq_true c1
  have d3 := of_decide_eq_true c3
  by_cases c5 : (l.length : Int) > 2
  · rw [decide_eq_true c5]
    exact no.mono fun z hz => by rw [hz, decide_eq_false (show ¬ l.length ≤ 2 by omega)]; simp
  · rw [decide_eq_false c5, c1, c3, c4, decide_eq_true (show kp.length ≤ 32 by omega), decide_eq_true (show l.length ≤ 2 by omega)]
    refine Evx.step (fun k => by rw [spec_MouthOk.j0]) (Evx.neg (by simp) ?_)
    exact (spec_rg l (by omega) d1.1 d1.2 d3.1 (by omega) kp r).mono fun z hz => by rw [hz]; simp
/-- Where what is told again ends. -/
def EndR (h s : Int) (l : List S43) (lim : Int) : Int := if (l.length : Int) > 0 then mn (mn s lim) ((rd_T43 l 0).f0 - h) else mn s lim
/-- What is told again. -/
def AgainR (h : Int) (kp : List Int) (s r : Int) (l : List S43) (lim : Int) : Int × List Int := if MouthR h kp s r l = true ∧ (1 ≤ lim ∧ lim ≤ 12) then (h, kp.take (EndR h s l lim).toNat) else (0, [])
theorem mn_comm (a b : Int) : mn a b = mn b a := by unfold mn; split <;> split <;> omega
theorem mouth_parts {h s r : Int} {kp : List Int} {l : List S43} (q : MouthR h kp s r l = true) : (0 ≤ h ∧ h ≤ 1000000) ∧ kp.length ≤ 32 ∧ (0 ≤ s ∧ s ≤ (kp.length : Int)) ∧ l.length ≤ 2 ∧ ((l.length : Int) > 0 → (rd_T43 l 0).f0 > h ∧ (rd_T43 l 0).f0 ≤ h + s) := by
  unfold MouthR at q
  simp only [Bool.and_eq_true, decide_eq_true_eq] at q
  obtain ⟨⟨⟨⟨⟨q1, q2⟩, q3⟩, q4⟩, q5⟩, q6⟩ := q
  refine ⟨q1, q2, q3, q5, fun c => ?_⟩
  match l, q5 with
  | [], _ => exact absurd c (by simp)
  | [a], _ =>
    have := q_true (show Q h (h + s) a = true from q6)
    exact ⟨this.1, by show a.f0 ≤ h + s; omega⟩
  | [a, b], _ =>
    have q6 : (Q h (h + s) a && Q a.f1 (h + s) b) = true := q6
    rw [Bool.and_eq_true] at q6
    have := q_true q6.1
    exact ⟨this.1, by show a.f0 ≤ h + s; omega⟩
theorem end_rng {h s r lim : Int} {kp : List Int} {l : List S43} (q : MouthR h kp s r l = true) (l1 : 1 ≤ lim) : 0 ≤ EndR h s l lim ∧ EndR h s l lim ≤ kp.length := by
  obtain ⟨q1, q2, q3, q4, q5⟩ := mouth_parts q
  unfold EndR
  by_cases c : (l.length : Int) > 0
  · have := q5 c
    rw [if_pos c]; unfold mn; split <;> split <;> omega
  · rw [if_neg c]; unfold mn; split <;> omega
theorem clone_eq {l : List Int} (h : (l.length : Int) ≤ 100000000) : impl_clone_byte.f l = some l := by
  unfold impl_clone_byte.f
  by_cases c : (l.length : Int) = 0
  · have e : l = [] := List.length_eq_zero_iff.1 (by omega)
    subst e; rw [if_pos c]
  · rw [if_neg c]; simp only [Option.bind_some]; rw [if_pos (by simp; omega)]; simp
theorem impl_again_x (h : Int) (kp : List Int) (s r : Int) (l : List S43) (lim : Int) : Evx (fun k => impl_MouthAgain.f k h kp s r l lim) (fun z => z = AgainR h kp s r l lim) := by
  unfold impl_MouthAgain.f
  simp only [impl_in_eq, Option.bind_some]
  refine Evx.bind (impl_mouth_x h kp s r l) fun z hz => ?_
  subst hz
  refine Evx.ite (fun c => Evx.ite (fun c2 => ?_) (fun c2 => Evx.now ?_)) (fun c => Evx.now ?_)
  · have d2 := of_decide_eq_true c2
    obtain ⟨q1, q2, q3, q4, q5⟩ := mouth_parts c
    have hr := end_rng (lim := lim) c d2.1
    have ht : ((kp.take (EndR h s l lim).toNat).length : Int) ≤ 100000000 := by rw [List.length_take]; omega
    have ha : impl_Mouth_again.f h kp s r l lim = some (kp.take (EndR h s l lim).toNat) := by
      unfold impl_Mouth_again.f
      rw [mn_comm lim s]
      by_cases e : (l.length : Int) > 0
      · have q := q5 e
        have hw : wrap64 ((rd_T43 l 0).f0 - h) = (rd_T43 l 0).f0 - h := by unfold wrap64; omega
        have he : EndR h s l lim = mn (mn s lim) ((rd_T43 l 0).f0 - h) := by unfold EndR; rw [if_pos e]
        rw [hw, ← he, if_pos e, if_pos e, if_pos hr.1, if_pos hr.2, clone_eq ht]; rfl
      · have he : EndR h s l lim = mn s lim := by unfold EndR; rw [if_neg e]
        rw [← he, if_neg e, if_pos hr.1, if_pos hr.2, clone_eq ht]; rfl
    rw [ha]
    simp only [Option.bind_some]
    refine Evx.now ?_
    unfold AgainR; rw [if_pos ⟨c, d2⟩]
  · unfold AgainR; rw [if_neg (fun q => c2 (decide_eq_true q.2))]
  · unfold AgainR; rw [if_neg (fun q => c q.1)]
theorem spec_again_x (h : Int) (kp : List Int) (s r : Int) (l : List S43) (lim : Int) : Evx (fun k => spec_MouthAgain.f k h kp s r l lim) (fun z => z = AgainR h kp s r l lim) := by
  unfold spec_MouthAgain.f
  simp only [spec_in_eq, Option.bind_some]
  have no : ¬ (MouthR h kp s r l = true ∧ (1 ≤ lim ∧ lim ≤ 12)) → Evx (fun k => spec_MouthAgain.j0 k lim true h kp s r l) (fun z => z = AgainR h kp s r l lim) := by
    intro q
    refine Evx.step (fun k => by rw [spec_MouthAgain.j0]) ?_
    refine Evx.pos rfl (Evx.now ?_)
    unfold AgainR; rw [if_neg q]
  refine Evx.bind (spec_mouth_x h kp s r l) fun z hz => ?_
  subst hz
  refine Evx.ite (fun c => ?_) (fun c => no (fun q => c q.1))
  by_cases d2 : 1 ≤ lim ∧ lim ≤ 12
  · rw [decide_eq_true d2]
    obtain ⟨q1, q2, q3, q4, q5⟩ := mouth_parts c
    have hr := end_rng (lim := lim) c d2.1
    refine Evx.step (fun k => by rw [spec_MouthAgain.j0]) (Evx.neg (by simp) ?_)
    simp only [Option.bind_some, List.nil_append, List.length_nil]
    have hA : AgainR h kp s r l lim = (h, kp.take (EndR h s l lim).toNat) := by unfold AgainR; exact if_pos ⟨c, d2⟩
    rw [hA]
    refine Evx.ite (fun e => ?_) (fun e => ?_)
    · have q := q5 e
      have hw : wrap64 ((rd_T43 l 0).f0 - h) = (rd_T43 l 0).f0 - h := by unfold wrap64; omega
      have he : EndR h s l lim = mn (mn s lim) ((rd_T43 l 0).f0 - h) := by unfold EndR; rw [if_pos e]
      rw [hw, ← he]
      first | exact Evx.pos e (Evx.pos hr.1 (Evx.pos hr.2 (Evx.pos (by rw [List.length_take]; omega) (Evx.now rfl)))) | exact Evx.pos hr.1 (Evx.pos hr.2 (Evx.pos (by rw [List.length_take]; omega) (Evx.now rfl)))
    · have he : EndR h s l lim = mn s lim := by unfold EndR; rw [if_neg e]
      rw [← he]
      exact Evx.pos hr.1 (Evx.pos hr.2 (Evx.pos (by rw [List.length_take]; omega) (Evx.now rfl)))
  · rw [decide_eq_false d2]; exact no (fun q => d2 q.2)

theorem toB_l {l : List Int} (hl : (l.length : Int) ≤ 100000000) (d : Nat) : ∀ i : Nat, i ≤ l.length → l.length - i = d →
    Evx (fun k => laws_toByteS.l0 k l (l.take i ++ List.replicate (l.length - i) 0) (i : Int)) (fun r => r = l) := by
  induction d with
  | zero =>
    intro i hi hd
    have : i = l.length := by omega
    subst this
    refine Evx.step (fun k => by rw [laws_toByteS.l0]) (Evx.neg (by omega) (Evx.now ?_))
    simp
  | succ d ih =>
    intro i hi hd
    refine Evx.step (fun k => by rw [laws_toByteS.l0]) (Evx.pos (by omega) (Evx.pos (by omega) (Evx.pos (by simp; omega) ?_)))
    have e : wrap64 ((i : Int) + 1) = ((i + 1 : Nat) : Int) := by unfold wrap64; omega
    have hil : i < l.length := by omega
    have s : (l.take i ++ List.replicate (l.length - i) 0).set ((i : Int)).toNat (rd l (i : Int)) = l.take (i + 1) ++ List.replicate (l.length - (i + 1)) 0 := by
      unfold rd
      rw [Int.toNat_natCast, List.getD_eq_getElem?_getD, List.getElem?_eq_getElem hil]
      apply List.ext_getElem?
      intro j
      rw [List.getElem?_set]
      by_cases hj : i = j
      · subst hj
        rw [if_pos rfl, if_pos (by simp; omega), List.getElem?_append_left (by simp; omega), List.getElem?_take, if_pos (by omega), List.getElem?_eq_getElem hil]
        rfl
      · rw [if_neg hj]
        rcases Nat.lt_or_ge j i with h | h
        · rw [List.getElem?_append_left (by simp; omega), List.getElem?_append_left (by simp; omega), List.getElem?_take, List.getElem?_take, if_pos h, if_pos (by omega)]
        · rw [List.getElem?_append_right (by simp; omega), List.getElem?_append_right (by simp; omega)]
          simp only [List.length_take, List.getElem?_replicate]
          have e1 : min i l.length = i := by omega
          have e2 : min (i + 1) l.length = i + 1 := by omega
          rw [e1, e2]
          by_cases hlt : j < l.length
          · rw [if_pos (by omega), if_pos (by omega)]
          · rw [if_neg (by omega), if_neg (by omega)]
    rw [e, s]
    exact ih (i + 1) (by omega) (by omega)
theorem toB_x {l : List Int} (hl : (l.length : Int) ≤ 100000000) : Evx (fun k => laws_toByteS.f k l) (fun r => r = l) := by
  unfold laws_toByteS.f
  refine Evx.pos (by omega) (Evx.pos (by omega) ?_)
  have := toB_l hl l.length 0 (by omega) (by omega)
  simpa using this

theorem eqB_l {l : List Int} (hl : (l.length : Int) ≤ 100000000) (d : Nat) : ∀ i : Int, 0 ≤ i → i ≤ l.length → l.length - i = d →
    Evx (fun k => laws_eqByteS.l0 k l l i) (fun r => r = true) := by
  induction d with
  | zero =>
    intro i i0 hi hd
    exact Evx.step (fun k => by rw [laws_eqByteS.l0]) (Evx.neg (by omega) (Evx.now rfl))
  | succ d ih =>
    intro i i0 hi hd
    refine Evx.step (fun k => by rw [laws_eqByteS.l0]) (Evx.pos (by omega) (Evx.pos i0 (Evx.pos (by omega) (Evx.pos rfl ?_))))
    have e : wrap64 (i + 1) = i + 1 := by unfold wrap64; omega
    rw [e]
    exact ih _ (by omega) (by omega) (by omega)
theorem eqB_x {l : List Int} (hl : (l.length : Int) ≤ 100000000) : Evx (fun k => laws_eqByteS.f k l l) (fun r => r = true) := by
  unfold laws_eqByteS.f
  exact Evx.pos rfl (eqB_l hl l.length 0 (by omega) (by omega) (by omega))

theorem rd_set {l : List Int} {i j v : Int} (i0 : 0 ≤ i) (i1 : i < l.length) (j0 : 0 ≤ j) : rd (l.set i.toNat v) j = if i = j then v else rd l j := by
  have hi : i.toNat < l.length := by omega
  unfold rd
  rw [List.getD_eq_getElem?_getD, List.getD_eq_getElem?_getD, List.getElem?_set]
  by_cases h : i = j
  · subst h; rw [if_pos rfl, if_pos hi, if_pos rfl]; rfl
  · rw [if_neg (by omega), if_neg h]
/-- Every element is the next number. -/
def Mkd (a : Int) (l : List Int) : Prop := ∀ j : Int, 0 ≤ j → j < l.length → rd l j = (a + j) % 256
theorem mark_l {n : Nat} (hn : (n : Int) ≤ 100000000) {a : Int} (a0 : 0 ≤ a) (a1 : a ≤ 100000000) (d : Nat) : ∀ (x : List Int) (i : Int), x.length = n → 0 ≤ i → i ≤ n → n - i = d → (∀ j : Int, 0 ≤ j → j < i → rd x j = (a + j) % 256) →
    Evx (fun k => laws_markByteS.l0 k x (a + i) i) (fun r => r.1 = a + n ∧ r.2.length = n ∧ Mkd a r.2) := by
  induction d with
  | zero =>
    intro x i hx i0 hi hd H
    have e : i = n := by omega
    refine Evx.step (fun k => by rw [laws_markByteS.l0]) (Evx.neg (by omega) (Evx.now ⟨by omega, hx, fun j j0 j1 => H j j0 (by have : j < x.length := j1; omega)⟩))
  | succ d ih =>
    intro x i hx i0 hi hd H
    refine Evx.step (fun k => by rw [laws_markByteS.l0]) (Evx.pos (by omega) (Evx.pos i0 ?_))
    have e1 : wrap64 (i + 1) = i + 1 := by unfold wrap64; omega
    have e2 : wrap64 (a + i + 1) = a + (i + 1) := by unfold wrap64; omega
    rw [e1, e2]
    refine ih _ _ (by simp [hx]) (by omega) (by omega) (by omega) fun j j0 j1 => ?_
    rw [rd_set i0 (by omega) j0]
    by_cases h : i = j
    · rw [if_pos h, h]
    · rw [if_neg h]; exact H j j0 (by omega)
theorem mark_x {l : List Int} (hl : (l.length : Int) ≤ 100000000) {a : Int} (a0 : 0 ≤ a) (a1 : a ≤ 100000000) :
    Evx (fun k => laws_markByteS.f k l a) (fun r => r.1 = a + l.length ∧ r.2.length = l.length ∧ Mkd a r.2) := by
  unfold laws_markByteS.f
  have := mark_l hl a0 a1 l.length l 0 rfl (by omega) (by omega) (by omega) (fun j j0 j1 => by omega)
  simpa using this
theorem held_l {l : List Int} (hl : (l.length : Int) ≤ 100000000) {a : Int} (a0 : 0 ≤ a) (a1 : a ≤ 100000000) (H : Mkd a l) (d : Nat) : ∀ (i : Int), 0 ≤ i → i ≤ l.length → l.length - i = d →
    Evx (fun k => laws_heldByteS.l0 k l (a + i) i) (fun r => r = a + l.length) := by
  induction d with
  | zero =>
    intro i i0 hi hd
    refine Evx.step (fun k => by rw [laws_heldByteS.l0]) (Evx.neg (by omega) (Evx.now (by omega)))
  | succ d ih =>
    intro i i0 hi hd
    refine Evx.step (fun k => by rw [laws_heldByteS.l0]) (Evx.pos (by omega) (Evx.pos i0 (Evx.pos (H i i0 (by omega)) ?_)))
    have e1 : wrap64 (i + 1) = i + 1 := by unfold wrap64; omega
    have e2 : wrap64 (a + i + 1) = a + (i + 1) := by unfold wrap64; omega
    rw [e1, e2]
    exact ih _ (by omega) (by omega) (by omega)
theorem held_x {l : List Int} (hl : (l.length : Int) ≤ 100000000) {a : Int} (a0 : 0 ≤ a) (a1 : a ≤ 100000000) (H : Mkd a l) :
    Evx (fun k => laws_heldByteS.f k l a) (fun r => r = a + l.length) := by
  unfold laws_heldByteS.f
  have := held_l hl a0 a1 H l.length 0 (by omega) (by omega) (by omega)
  simpa using this

/-- A range of the law's own kind, as one of the program's. -/
def cv (x : S59) : S43 := ⟨x.f0, x.f1⟩
theorem rd108_set {l : List S43} {i j : Int} {v : S43} (i0 : 0 ≤ i) (i1 : i < l.length) (j0 : 0 ≤ j) : rd_T43 (l.set i.toNat v) j = if i = j then v else rd_T43 l j := by
  have hi : i.toNat < l.length := by omega
  unfold rd_T43
  rw [List.getD_eq_getElem?_getD, List.getD_eq_getElem?_getD, List.getElem?_set]
  by_cases h : i = j
  · subst h; rw [if_pos rfl, if_pos hi, if_pos rfl]; rfl
  · rw [if_neg (by omega), if_neg h]
theorem to_l {l : List S59} (hl : (l.length : Int) ≤ 100000000) (d : Nat) : ∀ (x : List S43) (i : Int), x.length = l.length → 0 ≤ i → i ≤ l.length → l.length - i = d → (∀ j : Int, 0 ≤ j → j < i → rd_T43 x j = cv (rd_T59 l j)) →
    Evx (fun k => laws_toRangeS.l0 k l x i) (fun r => r.length = l.length ∧ ∀ j : Int, 0 ≤ j → j < l.length → rd_T43 r j = cv (rd_T59 l j)) := by
  induction d with
  | zero =>
    intro x i hx i0 hi hd H
    refine Evx.step (fun k => by rw [laws_toRangeS.l0]) ?_
    exact Evx.neg (by omega) (Evx.now ⟨hx, fun j j0 j1 => H j j0 (by omega)⟩)
  | succ d ih =>
    intro x i hx i0 hi hd H
    have e1 : wrap64 (i + 1) = i + 1 := by unfold wrap64; omega
    refine Evx.step (fun k => by rw [laws_toRangeS.l0]) (Evx.pos (by omega) (Evx.pos i0 ?_))
    unfold laws_toRange.f
    simp only [Option.bind_some]
    rw [e1]
    refine Evx.pos (by omega) (ih _ _ (by simp [hx]) (by omega) (by omega) (by omega) fun j j0 j1 => ?_)
    rw [rd108_set i0 (by omega) j0]
    by_cases h : i = j
    · rw [if_pos h, ← h]; rfl
    · rw [if_neg h]; exact H j j0 (by omega)
theorem to_x {l : List S59} (hl : (l.length : Int) ≤ 100000000) : Evx (fun k => laws_toRangeS.f k l) (fun r => r = l.map cv) := by
  unfold laws_toRangeS.f
  refine Evx.pos (by omega) (Evx.pos (by omega) ?_)
  refine (to_l hl l.length _ 0 (by simp) (by omega) (by omega) (by omega) (fun j j0 j1 => by omega)).mono fun r hr => ?_
  apply List.ext_getElem?
  intro j
  rcases Nat.lt_or_ge j l.length with q | q
  · have h := hr.2 (j : Int) (by omega) (by omega)
    unfold rd_T43 rd_T59 at h
    rw [Int.toNat_natCast, List.getD_eq_getElem?_getD, List.getD_eq_getElem?_getD, List.getElem?_eq_getElem (show j < r.length by omega), List.getElem?_eq_getElem q] at h
    rw [List.getElem?_eq_getElem (show j < r.length by omega), List.getElem?_map, List.getElem?_eq_getElem q]
    exact congrArg some h
  · rw [List.getElem?_eq_none (by omega), List.getElem?_eq_none (by simpa using q)]
theorem tom_x (h s r : Int) {kp : List Int} {l : List S59} (hk : (kp.length : Int) ≤ 100000000) (hl : (l.length : Int) ≤ 100000000) : Evx (fun k => laws_toMouth.f k h kp s r l) (fun z => z = (h, kp, s, r, l.map cv)) := by
  unfold laws_toMouth.f
  refine Evx.bind (toB_x hk) fun y hy => ?_
  refine Evx.bind (to_x hl) fun z hz => Evx.now ?_
  rw [hy, hz]
theorem eq_l {l : List S43} (hl : (l.length : Int) ≤ 100000000) (d : Nat) : ∀ i : Int, 0 ≤ i → i ≤ l.length → l.length - i = d →
    Evx (fun k => laws_eqRangeS.l0 k l l i) (fun r => r = true) := by
  induction d with
  | zero =>
    intro i i0 hi hd
    refine Evx.step (fun k => by rw [laws_eqRangeS.l0]) ?_
    exact Evx.neg (by omega) (Evx.now rfl)
  | succ d ih =>
    intro i i0 hi hd
    have e : wrap64 (i + 1) = i + 1 := by unfold wrap64; omega
    refine Evx.step (fun k => by rw [laws_eqRangeS.l0]) (Evx.pos (by omega) (Evx.pos i0 (Evx.pos (by omega) ?_)))
    have he : ∀ x : S43, laws_eqRange.f x.f0 x.f1 x.f0 x.f1 = some true := by intro x; unfold laws_eqRange.f; simp
    rw [he, e]
    simp only [Option.bind_some]
    exact Evx.pos trivial (ih _ (by omega) (by omega) (by omega))
theorem eqm_x (h s r : Int) {kp : List Int} {l : List S43} (hk : (kp.length : Int) ≤ 100000000) (hl : (l.length : Int) ≤ 100000000) : Evx (fun k => laws_eqMouth.f k h kp s r l h kp s r l) (fun z => z = true) := by
  unfold laws_eqMouth.f
  refine Evx.pos rfl (Evx.bind (eqB_x hk) fun y hy => Evx.pos hy (Evx.pos rfl (Evx.pos rfl ?_)))
  unfold laws_eqRangeS.f
  exact Evx.bind (Evx.pos rfl (eq_l hl l.length 0 (by omega) (by omega) (by omega))) fun z hz => Evx.pos hz (Evx.now rfl)
theorem mr_l {n : Nat} (hn : (n : Int) ≤ 10000000) (d : Nat) : ∀ (x : List S43) (a i : Int), x.length = n → 0 ≤ a → a ≤ 1000000000 - 2 * d → 0 ≤ i → i ≤ n → n - i = d → Evx (fun k => laws_markRangeS.l0 k x a i) (fun r => 0 ≤ r.1) := by
  induction d with
  | zero =>
    intro x a i hx a0 a1 i0 hi hd
    refine Evx.step (fun k => by rw [laws_markRangeS.l0]) ?_
    exact Evx.neg (by omega) (Evx.now a0)
  | succ d ih =>
    intro x a i hx a0 a1 i0 hi hd
    have e1 : wrap64 (i + 1) = i + 1 := by unfold wrap64; omega
    have e2 : wrap64 (a + 1) = a + 1 := by unfold wrap64; omega
    have e3 : wrap64 (a + 1 + 1) = a + 1 + 1 := by unfold wrap64; omega
    refine Evx.step (fun k => by rw [laws_markRangeS.l0]) (Evx.pos (by omega) (Evx.pos i0 ?_))
    simp only [Option.bind_some]
    rw [e1, e2, e3]
    exact ih _ _ _ (by simp [hx]) (by omega) (by omega) (by omega) (by omega) (by omega)
theorem mm_x (h s r : Int) {kp : List Int} {l : List S43} (hk : (kp.length : Int) ≤ 10000000) (hl : (l.length : Int) ≤ 10000000) : Evx (fun k => laws_markMouth.f k h kp s r l 1) (fun z => 0 ≤ z.1) := by
  unfold laws_markMouth.f
  refine Evx.bind (mark_x (by omega) (by omega) (by omega)) fun b1 e1 => ?_
  unfold laws_markRangeS.f
  exact Evx.bind (mr_l hl l.length l b1.1 0 rfl (by omega) (by omega) (by omega) (by omega) (by omega)) fun z hz => Evx.now hz
theorem again_len (h : Int) (kp : List Int) (s r : Int) (l : List S43) (lim : Int) : (AgainR h kp s r l lim).2.length ≤ kp.length := by
  unfold AgainR
  split
  · simp; omega
  · simp
theorem FnExactMouthAgain : Go.Proofs.Ytpgimaohkfilfaa.ShpFnExactMouthAgain.Pure := by
  intro h kp s r l lim _ hW1 _ _ hW4 _
  refine Evx.law (g := fun f => laws_FnExactMouthAgain.f f h kp s r l lim) ?_
  have hm1 : kp.length ≤ maxLen := hW1.1
  have hm4 : l.length ≤ maxLen := hW4.1
  unfold maxLen at hm1 hm4
  unfold laws_FnExactMouthAgain.f laws_szMouth.f laws_szByteS.f laws_szRangeS.f
  by_cases c : wrap64 (1048576 - (kp.length : Int)) < 0
  · rw [if_pos c]; simp only [Option.bind_some]; rw [if_pos (show (-1 : Int) < 0 by omega)]; simp only [Option.bind_some]; exact Evx.pos (by omega) (Evx.now rfl)
  rw [if_neg c]
  have e : wrap64 (1048576 - (kp.length : Int)) = 1048576 - kp.length := by unfold wrap64; omega
  rw [e] at c ⊢
  simp only [Option.bind_some]
  rw [if_neg c]
  by_cases c2 : wrap64 (1048576 - (kp.length : Int) - (l.length : Int)) < 0
  · rw [if_pos c2]; simp only [Option.bind_some]; rw [if_pos (show (-1 : Int) < 0 by omega)]; simp only [Option.bind_some]; exact Evx.pos (by omega) (Evx.now rfl)
  rw [if_neg c2]
  have e2 : wrap64 (1048576 - (kp.length : Int) - (l.length : Int)) = 1048576 - kp.length - l.length := by unfold wrap64; omega
  rw [e2] at c2 ⊢
  simp only [Option.bind_some]
  rw [if_neg c2]
  simp only [Option.bind_some]
  have hk : (kp.length : Int) ≤ 10000000 := by omega
  have hl : (l.length : Int) ≤ 10000000 := by omega
  have hl' : ((l.map cv).length : Int) ≤ 10000000 := by rw [List.length_map]; exact hl
  have hr := again_len h kp s r (l.map cv) lim
  have hA : (((AgainR h kp s r (l.map cv) lim).2.length : Nat) : Int) ≤ 10000000 := by omega
  refine Evx.neg c2 ?_
  refine Evx.bind (tom_x h s r (by omega) (by omega)) fun r1 q1 => ?_
  subst q1
  refine Evx.bind (spec_again_x h kp s r (l.map cv) lim) fun r2 q2 => ?_
  subst q2
  refine Evx.bind (tom_x h s r (by omega) (by omega)) fun r3 q3 => ?_
  subst q3
  refine Evx.bind (impl_again_x h kp s r (l.map cv) lim) fun r4 q4 => ?_
  subst q4
  refine Evx.pos rfl ?_
  refine Evx.bind (eqB_x (by omega)) fun r5 q5 => ?_
  rw [q5]
  refine Evx.step (fun k => by rw [laws_FnExactMouthAgain.j0]) (Evx.neg (by simp) ?_)
  refine Evx.bind (tom_x h s r (by omega) (by omega)) fun r6 q6 => ?_
  subst q6
  refine Evx.bind (eqm_x (kp := kp) (l := l.map cv) h s r (by omega) (by omega)) fun r7 q7 => Evx.pos q7 ?_
  refine Evx.bind (mm_x (kp := kp) (l := l.map cv) h s r (by omega) (by omega)) fun r8 q8 => ?_
  refine Evx.neg (by omega) (Evx.pos rfl ?_)
  refine Evx.bind (eqB_x (by omega)) fun r9 q9 => ?_
  rw [q9]
  refine Evx.step (fun k => by rw [laws_FnExactMouthAgain.j1]) (Evx.neg (by simp) ?_)
  refine Evx.bind (mark_x (by omega) (by omega) (by omega)) fun b2 eb2 => ?_
  refine Evx.bind (held_x (by omega) (by omega) (by omega) eb2.2.2) fun q1 eq1 => ?_
  refine Evx.neg (by omega) (Evx.pos (by omega) ?_)
  refine Evx.bind (tom_x h s r (by omega) (by omega)) fun r10 q10 => ?_
  subst q10
  refine Evx.bind (impl_again_x h kp s r (l.map cv) lim) fun r11 q11 => ?_
  subst q11
  refine Evx.pos rfl ?_
  refine Evx.bind (eqB_x (by omega)) fun r12 q12 => ?_
  rw [q12]
  refine Evx.step (fun k => by rw [laws_FnExactMouthAgain.j2]) (Evx.neg (by simp) ?_)
  refine Evx.bind (held_x (by omega) (by omega) (by omega) eb2.2.2) fun q2 eq2 => ?_
  exact Evx.neg (by omega) (Evx.pos (by omega) (Evx.now rfl))

end Go.Proofs.Ytpgimaohkfilfaa.Pure
