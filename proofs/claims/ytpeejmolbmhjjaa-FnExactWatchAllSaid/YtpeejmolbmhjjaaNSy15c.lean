/- Regions whose order Go leaves open come to one thing in whatever order, where no operation meets what another turns; there is no condition beyond those each statement names. -/
import Derived.Test.YtpeejmolbmhjjaaNSy15b
namespace Go.Proofs.Ytpeejmolbmhjjaa.Sx
set_option linter.unusedSimpArgs false
set_option linter.unusedVariables false
open Go
def looks (all : List Oper) (o : Oper) : List Nat :=
  (o.op.operands.toList.filterMap fun x => match x with | .tmp t => some t | _ => none) ++ (match o.guard with | some (j, _) => (match (all[j]?).bind (·.dst) with | some t => [t] | none => []) | none => [])
def preds (o : Oper) : List Nat := (o.after.toList.filter fun e => Region.binds .any e).map (·.on)
def okOf (fps : List (Nat × List Nat)) (i : Nat) : Nat → Bool := fun b => match lk fps i with | some l => l.any fun j => Nat.beq b j | none => false
def mem? (l : List Nat) (k : Nat) : Bool := l.any fun j => Nat.beq k j
/-- The boxes that operation i may touch, those that it makes among them. -/
def boxesOf (o : Oper) (fps : List (Nat × List Nat)) (i : Nat) : List Nat := (match lk fps i with | some l => l | none => []) ++ (if isNew o || isCallF o then [o.dst.getD 0] else [])
def indepO (all : List Oper) (fps : List (Nat × List Nat)) (p q : Nat) (x y : Oper) : Bool :=
  !isCallF x && !(setsCu x && isApp y) && (match x.dst, y.dst with
    | some d, some e => !Nat.beq d e && !mem? (looks all y) d && !mem? (looks all x) e && !(Nat.beq d 0 || Nat.beq e 0)
    | some d, none => !mem? (looks all y) d && !isCallF y && !isApp y && !isNew y && !Nat.beq d 0
    | none, some e => !mem? (looks all x) e && !isCallF x && !isApp x && !isNew x && !Nat.beq e 0
    | none, none => false) && (!(isWr x || isWr y) || (boxesOf x fps p).all fun b => !mem? (boxesOf y fps q) b)
def indep (all : List Oper) (fps : List (Nat × List Nat)) (p q : Nat) : Bool :=
  match all[p]?, all[q]? with
  | some x, some y => indepO all fps p q x y
  | _, _ => false
def waits (all : List Oper) (acc : List Nat) (q : Nat) : Bool := match all[q]? with | some y => (preds y).any fun e => mem? acc e | none => false
def scan (all : List Oper) (fps : List (Nat × List Nat)) (p : Nat) : List Nat → List Nat → Bool
  | [], _ => true
  | q :: r, acc => (waits all acc q && scan all fps p r (q :: acc)) || (indep all fps p q && scan all fps p r acc)
def chk (all : List Oper) (fps : List (Nat × List Nat)) : List Nat → Bool
  | [] => true
  | p :: r => scan all fps p r [p] && !mem? r p && chk all fps r
def edgesOk : Nat → List Oper → Bool
  | _, [] => true
  | n, o :: r => (preds o).all (fun e => Nat.blt e n) && edgesOk (n + 1) r
def drawOk (all : List Oper) (π : List Nat) (fps : List (Nat × List Nat)) : Bool :=
  Nat.beq π.length all.length && (π.all fun i => Nat.blt i all.length) && ((List.range all.length).all fun i => mem? π i) && chk all fps π && edgesOk 0 all
section
variable {P : Program} {T : TT} {all : List Oper} {fps : List (Nat × List Nat)}
def stepF (P : Program) (T : TT) (all : List Oper) (fps : List (Nat × List Nat)) (f : FS) (i : Nat) (K : FS → Prop) : Prop :=
  match all[i]? with
  | none => False
  | some o => match o.guard with
    | none => evOp P T f (okOf fps i) o fun d => K (f.app o.dst d)
    | some (j, want) => match (all[j]?).bind (·.dst) with
      | none => False
      | some t => guardK (f.env t) (fun b => if b = want then evOp P T f (okOf fps i) o fun d => K (f.app o.dst d) else K (f.app o.dst { v := .tup [] })) (K (f.app o.dst { v := .tup [] }))
def seqF (P : Program) (T : TT) (all : List Oper) (fps : List (Nat × List Nat)) : List Nat → FS → (FS → Prop) → Prop
  | [], f, K => K f
  | i :: r, f, K => stepF P T all fps f i fun f' => seqF P T all fps r f' K
/-- In whatever order. -/
def AVd (P : Program) (T : TT) (all : List Oper) (fps : List (Nat × List Nat)) : Nat → List Nat → FS → (FS → Prop) → Prop
  | 0, pend, f, K => pend = [] ∧ K f
  | n + 1, pend, f, K => (pend = [] → K f) ∧ ∀ i ∈ pend, (∀ o, all[i]? = some o → ∀ e ∈ preds o, e ∉ pend) → stepF P T all fps f i fun f' => AVd P T all fps n (pend.erase i) f' K
/-- What a step is: the operation carried out, or passed over. -/
inductive Stp (P : Program) (T : TT) (all : List Oper) (fps : List (Nat × List Nat)) (f : FS) (i : Nat) (o : Oper) (K : Dl → Prop) : Prop
  | run : (o.guard = none ∨ ∃ j want t, o.guard = some (j, want) ∧ (all[j]?).bind (·.dst) = some t ∧ f.env t = .pv (false, [.b want])) → evOp P T f (okOf fps i) o K → Stp P T all fps f i o K
  | skip (j : Nat) (want : Bool) (x : TV) (t : Nat) : o.guard = some (j, want) → (all[j]?).bind (·.dst) = some t → f.env t = x → (x = .tup [] ∨ ∃ b, x = .pv (false, [.b b]) ∧ b ≠ want) → K { v := .tup [] } → Stp P T all fps f i o K
theorem stepF_stp {f : FS} {i : Nat} {K : FS → Prop} (h : stepF P T all fps f i K) : ∃ o, all[i]? = some o ∧ Stp P T all fps f i o fun d => K (f.app o.dst d) := by
  unfold stepF at h
  split at h
  · exact h.elim
  · rename_i o ho
    refine ⟨o, ho, ?_⟩
    split at h
    · rename_i hg; exact .run (.inl hg) h
    · rename_i j want hg
      split at h
      · exact h.elim
      · rename_i t ht
        rcases guardK_inv h with ⟨b, hb, h⟩ | ⟨hb, h⟩
        · by_cases hw : b = want
          · rw [if_pos hw] at h; exact .run (.inr ⟨j, want, t, hg, ht, by rw [hb, hw]⟩) h
          · rw [if_neg hw] at h; exact .skip j want _ t hg ht hb (.inr ⟨b, rfl, hw⟩) h
        · exact .skip j want _ t hg ht hb (.inl rfl) h
theorem stp_stepF {f : FS} {i : Nat} {o : Oper} {K : FS → Prop} (ho : all[i]? = some o) (h : Stp P T all fps f i o fun d => K (f.app o.dst d)) : stepF P T all fps f i K := by
  unfold stepF
  rw [ho]
  simp only
  cases h with
  | run hg h =>
    rcases hg with hg | ⟨j, want, t, hg, ht, hb⟩
    · rw [hg]; exact h
    · rw [hg]; simp only [ht]; unfold guardK; rw [hb]; simp only [if_true]; exact h
  | skip j want x t hg ht hb hw h =>
    rw [hg]; simp only [ht]; unfold guardK; rw [hb]
    rcases hw with rfl | ⟨b, rfl, hw⟩
    · exact h
    · show if b = want then _ else _
      rw [if_neg hw]; exact h
theorem Stp.mono {f : FS} {i : Nat} {o : Oper} {K K' : Dl → Prop} (h : Stp P T all fps f i o K) (hm : ∀ d, K d → Fp f o (okOf fps i) d → K' d) : Stp P T all fps f i o K' := by
  cases h with
  | run hg h => exact .run hg (evOp_mono h hm)
  | skip j want b t hg ht hb hw h => exact .skip j want b t hg ht hb hw (hm _ h .val)
theorem Stp.det {f : FS} {i : Nat} {o : Oper} {K : Dl → Prop} (hc : isCallF o = false) (h : Stp P T all fps f i o K) : ∃ d, K d ∧ Fp f o (okOf fps i) d ∧ ∀ K' : Dl → Prop, K' d → Stp P T all fps f i o K' := by
  cases h with
  | run hg h => obtain ⟨d, h1, h2, h3⟩ := evOp_det hc h; exact ⟨d, h1, h2, fun K' hK => .run hg (h3 K' hK)⟩
  | skip j want b t hg ht hb hw h => exact ⟨_, h, .val, fun K' hK => .skip j want b t hg ht hb hw hK⟩
theorem sixteen_eq {dx dy z t : Nat} (h1 : 16 * dx ≤ z) (h2 : z < 16 * dx + 16) (hb : 16 * dy + t = z) (ht : t < 16) : dx = dy := by omega
theorem sixteen2 {dx dy k : Nat} (h1 : 16 * dx ≤ k) (h2 : k < 16 * dx + 16) (g1 : 16 * dy ≤ k) (g2 : k < 16 * dy + 16) : dx = dy := by omega
theorem mem?_iff {l : List Nat} {k : Nat} : mem? l k = true ↔ k ∈ l := ⟨anyB, fun h => List.any_eq_true.2 ⟨k, h, by simp⟩⟩
theorem looks_op {o : Oper} {t : Nat} (h : Operand.tmp t ∈ o.op.operands.toList) : t ∈ looks all o := List.mem_append_left _ (List.mem_filterMap.2 ⟨.tmp t, h, rfl⟩)
theorem looks_guard {o : Oper} {j t : Nat} {want : Bool} (hg : o.guard = some (j, want)) (ht : (all[j]?).bind (·.dst) = some t) : t ∈ looks all o := by
  refine List.mem_append_right _ ?_
  rw [hg]; simp only [ht]; simp
theorem lk_ok {i b : Nat} (h : okOf fps i b = true) {o : Oper} : b ∈ boxesOf o fps i := by
  unfold okOf at h
  refine List.mem_append_left _ ?_
  split at h
  · exact anyB h
  · cases h
theorem new_box {i : Nat} {o : Oper} (h : (isNew o || isCallF o) = true) : o.dst.getD 0 ∈ boxesOf o fps i := List.mem_append_right _ (by rw [if_pos h]; simp)
theorem lk_not {α : Type} {l : List (Nat × α)} {k : Nat} (h : ∀ x ∈ l, x.1 ≠ k) : lk l k = none := by
  cases hq : lk l k with
  | none => rfl
  | some v => exact absurd rfl (h _ (lk_mem hq))
/-- What a step of x leaves, y reads as before. -/
structure Apart (all : List Oper) (fps : List (Nat × List Nat)) (p q : Nat) (x y : Oper) : Prop where
  hE : ∀ e, x.dst = some e → e ∉ looks all y
  hxy : x.dst.getD 0 ≠ y.dst.getD 0
  hx0 : (isNew x || isCallF x) = true → x.dst.getD 0 ≠ 0
  hB : (isWr x || isWr y) = true → ∀ b ∈ boxesOf x fps p, b ∉ boxesOf y fps q
theorem Apart.env {f : FS} {p q : Nat} {x y : Oper} {d : Dl} (ha : Apart all fps p q x y) : ∀ t, t ∈ looks all y → (f.app x.dst d).env t = f.env t := fun t ht => by
  unfold FS.app
  cases hd : x.dst with
  | none => rfl
  | some e =>
    have hne : Nat.beq t e = false := by
      cases hb : Nat.beq t e with
      | false => rfl
      | true => exact absurd ht (by rw [Nat.eq_of_beq_eq_true hb]; exact ha.hE e hd)
    simp only [hne, cond_false]
theorem Apart.evo {f : FS} {p q : Nat} {x y : Oper} {d : Dl} (ha : Apart all fps p q x y) : ∀ z ∈ y.op.operands.toList, ∀ e, evo (f.app x.dst d).env e z = evo f.env e z := fun z hz e => by
  cases z with
  | tmp t => exact ha.env t (looks_op hz)
  | const v => cases v <;> rfl
  | _ => rfl
theorem Apart.mem {f : FS} {p q : Nat} {x y : Oper} {d : Dl} (ha : Apart all fps p q x y) (hfp : Fp f x (okOf fps p) d) : ∀ b, okOf fps q b = true → (f.app x.dst d).mem b = f.mem b := fun b hb => by
  show (match lk d.mm b with | some cs => some cs | none => f.mem b) = f.mem b
  rw [lk_not (fun z hz e => ?_)]
  cases hw : isWr x with
  | false => rw [hfp.mm0 hw] at hz; cases hz
  | true =>
    have hbx : z.1 ∈ boxesOf x fps p := by
      rcases hfp.mmk z hz with h1 | ⟨h1, h2⟩
      · exact lk_ok h1
      · rw [h1]; exact new_box h2
    exact ha.hB (by rw [hw]; rfl) z.1 hbx (by rw [e]; exact lk_ok hb)
theorem Apart.ub {f : FS} {p q : Nat} {x y : Oper} {d : Dl} (ha : Apart all fps p q x y) (hfp : Fp f x (okOf fps p) d) : (f.app x.dst d).ub (y.dst.getD 0) = f.ub (y.dst.getD 0) ∧ (f.app x.dst d).ub 0 = f.ub 0 := by
  refine ⟨?_, ?_⟩
  · show ((d.nb.any fun j => Nat.beq (y.dst.getD 0) j) || f.ub (y.dst.getD 0)) = f.ub (y.dst.getD 0)
    have : (d.nb.any fun j => Nat.beq (y.dst.getD 0) j) = false := by
      rw [List.any_eq_false]
      intro z hz hb
      exact ha.hxy (by rw [← (hfp.nbk z hz).1, ← Nat.eq_of_beq_eq_true hb])
    rw [this, Bool.false_or]
  · show ((d.nb.any fun j => Nat.beq 0 j) || f.ub 0) = f.ub 0
    have : (d.nb.any fun j => Nat.beq 0 j) = false := by
      rw [List.any_eq_false]
      intro z hz hb
      obtain ⟨h1, h2⟩ := hfp.nbk z hz
      exact ha.hx0 h2 (by rw [← h1, ← Nat.eq_of_beq_eq_true hb])
    rw [this, Bool.false_or]
theorem Apart.ut {f : FS} {p q : Nat} {x y : Oper} {d : Dl} (ha : Apart all fps p q x y) (hfp : Fp f x (okOf fps p) d) : ∀ t, t < 16 → (f.app x.dst d).ut (16 * y.dst.getD 0 + t) = f.ut (16 * y.dst.getD 0 + t) := fun t ht => by
  show ((d.cu.any fun j => Nat.beq (16 * y.dst.getD 0 + t) j.1) || f.ut _) = f.ut _
  cases hany : d.cu.any fun j => Nat.beq (16 * y.dst.getD 0 + t) j.1 with
  | false => rw [Bool.false_or]
  | true =>
    obtain ⟨z, hz, hb⟩ := List.any_eq_true.1 hany
    have hb := Nat.eq_of_beq_eq_true hb
    rcases hfp.cuk z hz with ⟨h1, h2, _⟩ | ⟨_, h3⟩
    · exfalso
      have hxy := ha.hxy
      revert h1 h2 hb hxy
      generalize x.dst.getD 0 = dx
      generalize y.dst.getD 0 = dy
      intro hb h1 h2 hxy
      exact hxy (sixteen_eq h1 h2 hb ht)
    · rw [hb, h3]; rfl
theorem Stp.over {f : FS} {p q : Nat} {x y : Oper} {d : Dl} {K : Dl → Prop} (ha : Apart all fps p q x y) (hfp : Fp f x (okOf fps p) d) (hcx : isApp y = true → isApp x = false)
    (hup : Stp P T all fps f q y K) : Stp P T all fps (f.app x.dst d) q y K := by
  cases hup with
  | skip j want b t hg ht hb hw hK => exact .skip j want b t hg ht (by rw [ha.env t (looks_guard hg ht)]; exact hb) hw hK
  | run hg hK =>
    refine .run ?_ (evOp_congr ha.evo (ha.mem hfp) (fun hay t ht => ⟨?_, ?_⟩) (ha.ub hfp).1 (ha.ub hfp).2 (ha.ut hfp) hK)
    · rcases hg with hg | ⟨j, want, t, hg, ht, hb⟩
      · exact .inl hg
      · exact .inr ⟨j, want, t, hg, ht, by rw [ha.env t (looks_guard hg ht)]; exact hb⟩
    · show (_ || f.ut t) = true; rw [ht, Bool.or_true]
    · show (match lk d.cu t with | some v => some v | none => f.cur t) = f.cur t
      rw [lk_not (fun z hz e => ?_)]
      rcases hfp.cuk z hz with ⟨_, _, h3, _⟩ | ⟨h3, _⟩
      · rw [e, ht] at h3; cases h3
      · rw [hcx hay] at h3; cases h3
theorem Stp.under {f : FS} {p q : Nat} {x y : Oper} {d : Dl} {K : Dl → Prop} (ha : Apart all fps p q x y) (hfp : Fp f x (okOf fps p) d) (hcx : isApp y = true → setsCu x = false)
    (hup : Stp P T all fps (f.app x.dst d) q y K) : Stp P T all fps f q y K := by
  cases hup with
  | skip j want b t hg ht hb hw hK => exact .skip j want b t hg ht (by rw [← ha.env t (looks_guard hg ht)]; exact hb) hw hK
  | run hg hK =>
    refine .run ?_ (evOp_congr (fun z hz e => (ha.evo z hz e).symm) (fun b hb => (ha.mem hfp b hb).symm) (fun hay t ht => ?_) (ha.ub hfp).1.symm (ha.ub hfp).2.symm (fun t ht => (ha.ut hfp t ht).symm) hK)
    · rcases hg with hg | ⟨j, want, t, hg, ht, hb⟩
      · exact .inl hg
      · exact .inr ⟨j, want, t, hg, ht, by rw [← ha.env t (looks_guard hg ht)]; exact hb⟩
    · have hnil : d.cu = [] := by
        cases hq : d.cu with
        | nil => rfl
        | cons z r =>
          rcases hfp.cuk z (by rw [hq]; simp) with ⟨_, _, _, h4, _⟩ | ⟨h3, _⟩
          · rw [hcx hay] at h4; cases h4
          · have : setsCu x = true := by
              unfold setsCu
              split
              · rfl
              · rfl
              · rfl
              · rw [h3, Bool.or_true]
            rw [hcx hay] at this; cases this
      have h1 : (f.app x.dst d).ut t = f.ut t := by
        show ((d.cu.any fun j => Nat.beq t j.1) || f.ut t) = f.ut t
        rw [hnil]; rfl
      have h2 : (f.app x.dst d).cur t = f.cur t := by
        show (match lk d.cu t with | some v => some v | none => f.cur t) = f.cur t
        rw [hnil]; rfl
      exact ⟨by rw [← h1]; exact ht, h2.symm⟩
/-- The like, with what it may turn there. -/
theorem Apart.under_fp {f : FS} {p q : Nat} {x y : Oper} {d : Dl} {K : Dl → Prop} (ha : Apart all fps p q x y) (hfp : Fp f x (okOf fps p) d) (hcx : isApp y = true → setsCu x = false)
    (hup : Stp P T all fps (f.app x.dst d) q y K) : Stp P T all fps f q y fun e => K e ∧ Fp (f.app x.dst d) y (okOf fps q) e :=
  Stp.under ha hfp hcx (hup.mono fun e he hfy => ⟨he, hfy⟩)
/-- Two steps that do not meet may change places. -/
theorem app_comm {f : FS} {p q : Nat} {x y : Oper} {d e : Dl} (hdst : ∀ k, x.dst = some k → y.dst ≠ some k) (hxy : x.dst.getD 0 ≠ y.dst.getD 0) (hB : (isWr x || isWr y) = true → ∀ b ∈ boxesOf x fps p, b ∉ boxesOf y fps q)
    (hfx : Fp f x (okOf fps p) d) (hfy : Fp (f.app x.dst d) y (okOf fps q) e) (hcx : isApp y = true → setsCu x = false) : (f.app x.dst d).app y.dst e = (f.app y.dst e).app x.dst d := by
  have hmm : ∀ k, (∃ v, lk d.mm k = some v) → lk e.mm k = none := fun k ⟨v, hv⟩ => lk_not fun z hz he => by
    have hw : isWr x = true := by
      cases hw : isWr x with
      | true => rfl
      | false => rw [hfx.mm0 hw] at hv; cases hv
    have h1 : k ∈ boxesOf x fps p := by
      rcases hfx.mmk _ (lk_mem hv) with h1 | ⟨h1, h2⟩
      · exact lk_ok h1
      · simp only at h1; rw [h1]; exact new_box h2
    have h2 : k ∈ boxesOf y fps q := by
      rw [← he]
      rcases hfy.mmk z hz with h1 | ⟨h1, h2⟩
      · exact lk_ok h1
      · rw [h1]; exact new_box h2
    exact hB (by rw [hw]; rfl) k h1 h2
  have hcu : ∀ k, (∃ v, lk d.cu k = some v) → lk e.cu k = none := fun k ⟨v, hv⟩ => lk_not fun z hz he => by
    rcases hfx.cuk _ (lk_mem hv) with ⟨h1, h2, h3, h4, _⟩ | ⟨h1, h2⟩
    · simp only at h1 h2 h3
      rcases hfy.cuk z hz with ⟨g1, g2, _⟩ | ⟨g1, _⟩
      · rw [he] at g1 g2
        exact hxy (sixteen2 h1 h2 g1 g2)
      · rw [hcx g1] at h4; cases h4
    · simp only at h2
      rcases hfy.cuk z hz with ⟨_, _, g3, _⟩ | ⟨g1, _⟩
      · rw [he] at g3
        have : (f.app x.dst d).ut k = true := by show (_ || f.ut k) = true; rw [h2, Bool.or_true]
        rw [this] at g3; cases g3
      · have : setsCu x = true := by
          unfold setsCu
          split
          · rfl
          · rfl
          · rfl
          · rw [h1, Bool.or_true]
        rw [hcx g1] at this; cases this
  unfold FS.app
  simp only [FS.mk.injEq]
  refine ⟨?_, ?_, ?_, ?_, ?_⟩
  · cases hx : x.dst with
    | none => cases hy : y.dst <;> rfl
    | some i =>
      cases hy : y.dst with
      | none => rfl
      | some j =>
        funext k
        have hne : i ≠ j := fun e => hdst i hx (by rw [hy, e])
        simp only
        cases h1 : Nat.beq k j with
        | false => rfl
        | true =>
          cases h2 : Nat.beq k i with
          | false => rfl
          | true => exact absurd (by rw [← Nat.eq_of_beq_eq_true h1, ← Nat.eq_of_beq_eq_true h2]) hne
  · funext k
    cases h1 : lk d.mm k with
    | none => cases lk e.mm k <;> rfl
    | some v => rw [hmm k ⟨v, h1⟩]
  · funext k
    cases h1 : lk d.cu k with
    | none => cases lk e.cu k <;> rfl
    | some v => rw [hcu k ⟨v, h1⟩]
  · funext k
    rw [← Bool.or_assoc, ← Bool.or_assoc, Bool.or_comm (e.nb.any _)]
  · funext k
    rw [← Bool.or_assoc, ← Bool.or_assoc, Bool.or_comm (e.cu.any _)]
end
end Go.Proofs.Ytpeejmolbmhjjaa.Sx
