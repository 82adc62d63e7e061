/- From what the reading says of a law to the call's own contract, for a law of structs and slices; there is no condition beyond those each statement names. -/
import Derived.Test.YtpeejmolbmhjjaaR0
import Derived.Deep.Slices
import Derived.ChangeSame
namespace Go.Proofs.Ytpeejmolbmhjjaa.Sx
set_option linter.unusedSimpArgs false
set_option linter.unusedVariables false
open Go Go.RowKit Go.ChangeShapes Go.WideShapes Go.ChangeAt Go.Deep
set_option maxRecDepth 100000
/-- What is read at type t is a row of plain cells that meets Q ('c': if the slices among them lie at plain addresses). -/
def Op (P : Program) (c : Bool) (t : TypeId) (Q : List AV → Prop) : Prop :=
  ∀ (H : Type) (enc : TypeId × Value → H) (w : World) (base : Nat) (spare : Nat → Bool) (held : Bool) (fuel : Nat) (cs : List Value) (x : DataW H × List MemPlace),
    DataW.trod enc P w base spare held fuel t cs = some x → (c = true → ∀ a len cap, Value.slice (some a) len cap ∈ cs → a.spot = none) →
    ∃ av : List AV, (∀ β U, RepL (Rep P (fun _ _ => False) β U w) av cs) ∧ (∀ a ∈ av, a.clean = true) ∧ Q av
/-- The same of a struct's fields from one on. -/
def OpF (P : Program) (c : Bool) (fs : List Field) (off sz : Nat) (Q : List AV → Prop) : Prop :=
  ∀ (H : Type) (enc : TypeId × Value → H) (w : World) (base : Nat) (spare : Nat → Bool) (held : Bool) (fuel : Nat) (cs : List Value), cs.length = off + sz →
    (∀ f ∈ fs, ∃ y : DataW H × List MemPlace, DataW.trod enc P w base spare held fuel f.type ((cs.drop f.offset).take (P.cellsOf f.type)) = some y) →
    (c = true → ∀ a len cap, Value.slice (some a) len cap ∈ cs → a.spot = none) →
    ∃ av : List AV, (∀ β U, RepL (Rep P (fun _ _ => False) β U w) av (cs.drop off)) ∧ (∀ a ∈ av, a.clean = true) ∧ Q av
section
variable {P : Program} {t e : TypeId} {c : Bool}
def isInt (k : IntKind) (av : List AV) : Prop := ∃ n, av = [.i k n] ∧ (Lit.int k n).wf = true
def isBool (av : List AV) : Prop := ∃ b, av = [.b b]
def isLst (e : TypeId) (Q : List AV → Prop) (av : List AV) : Prop := ∃ es, av = [.lst 0 0 e es] ∧ es.length ≤ maxLen ∧ ∀ xs ∈ es, Q xs
def isTwo (Q Q' : List AV → Prop) (av : List AV) : Prop := ∃ a b, av = a ++ b ∧ Q a ∧ Q' b
theorem op_int {k : IntKind} (ht : P.underlying t = some (.int k)) : Op P c t (isInt k) := by
  intro H enc w base spare held fuel cs x h _
  obtain ⟨n, rfl, _, hw⟩ := DataW.trod_int ht h
  exact ⟨[.i k n], fun β U => .cons (.i k n) .nil, by simp [AV.clean], n, rfl, hw⟩
theorem op_bool (ht : P.underlying t = some .bool) : Op P c t isBool := by
  intro H enc w base spare held fuel cs x h _
  obtain ⟨b, rfl, _⟩ := DataW.trod_bool ht h
  exact ⟨[.b b], fun β U => .cons (.b b) .nil, by simp [AV.clean], b, rfl⟩
theorem op_slice {Q : List AV → Prop} (ht : P.underlying t = some (.slice e)) (hd : Op P false e Q) : Op P true t (isLst e Q) := by
  intro H enc w base spare held fuel cs x h hsp
  rcases open_slice ht h with ⟨rfl, _⟩ | ⟨a, len, cap, m, n, D, Pl, rfl, hb, hl, hm, hmm, _, hi⟩
  · exact ⟨[.lst 0 0 e []], fun β U => .cons (.nil 0 0 e) .nil, by simp [AV.clean], [], rfl, Nat.zero_le _, by simp⟩
  · have hs : a.spot = none := hsp rfl a len cap (by simp)
    have hlm : len ≤ m := by rw [hmm]; split <;> omega
    have hx : ∀ i : Fin len, ∃ ys : List AV, (∃ c : List Value, c.length = P.cellsOf e ∧ (∀ β U, RepL (Rep P (fun _ _ => False) β U w) ys c) ∧ ∀ j u, c[j]? = some u → w.cell? (a.add (i.val * P.cellsOf e + j)) = some u) ∧ (∀ y ∈ ys, y.clean = true) ∧ Q ys := by
      intro i
      obtain ⟨c, hc, ht'⟩ := hi i.val (by omega)
      obtain ⟨ys, hK, hcl, hW⟩ := hd _ _ _ _ _ _ _ _ _ ht' (fun h => nomatch h)
      obtain ⟨_, hcl2, hat⟩ := World.cells?_some hc
      refine ⟨ys, ⟨c, hcl2, hK, fun j u hu => ?_⟩, hcl, hW⟩
      have hj : j < c.length := (List.getElem?_eq_some_iff.1 hu).1
      have := hat j (by omega)
      rw [Go.Deep.add_add] at this
      exact this.trans hu
    have hlen : (List.ofFn fun i => Classical.choose (hx i)).length = len := List.length_ofFn
    have hel : ∀ (j : Nat) (xs : List AV), (List.ofFn fun i => Classical.choose (hx i))[j]? = some xs → ∃ hj : j < len, xs = Classical.choose (hx ⟨j, hj⟩) := by
      intro j xs hj
      have hjl : j < len := by
        have := (List.getElem?_eq_some_iff.1 hj).1
        omega
      refine ⟨hjl, ?_⟩
      rw [List.getElem?_ofFn, dif_pos hjl] at hj
      exact (Option.some.inj hj).symm
    refine ⟨[.lst 0 0 e (List.ofFn fun i => Classical.choose (hx i))], fun β U => .cons ?_ .nil, by simp [AV.clean], _, rfl, by rw [hlen]; omega, fun xs hxs => ?_⟩
    · obtain ⟨blk, off, sp⟩ := a
      dsimp only at hs
      subst hs
      have := Rep.lst (P := P) (F := fun _ _ => False) (β := β) (U := U) (w := w) 0 0 e (List.ofFn fun i => Classical.choose (hx i)) blk off cap (fun j c => (w.cell? ⟨blk, off + (j * P.cellsOf e + c), none⟩).getD undef) (by omega)
        (fun xs hxs => by
          obtain ⟨i, rfl⟩ := List.mem_ofFn.1 hxs
          obtain ⟨⟨c, h1, h2, _⟩, _, _⟩ := Classical.choose_spec (hx i)
          exact (h2 β U).1.trans h1)
        (fun j c xs y hj hy => by
          obtain ⟨hjl, rfl⟩ := hel j xs hj
          obtain ⟨⟨cl, h1, h2, h3⟩, h4, _⟩ := Classical.choose_spec (hx ⟨j, hjl⟩)
          obtain ⟨u, hu, _⟩ := (h2 β U).get hy
          have h5 := h3 c u hu
          rw [add_addr rfl] at h5
          refine ⟨h4 y (List.mem_of_getElem? hy), ?_, fun h => h⟩
          have h6 : w.cell? ⟨blk, off + (j * P.cellsOf e + c), none⟩ = some u := h5
          rw [h6]; rfl)
        (fun j c xs y hj hy => by
          obtain ⟨hjl, rfl⟩ := hel j xs hj
          obtain ⟨⟨cl, h1, h2, h3⟩, h4, _⟩ := Classical.choose_spec (hx ⟨j, hjl⟩)
          obtain ⟨u, hu, hr⟩ := (h2 β U).get hy
          have h5 := h3 c u hu
          rw [add_addr rfl] at h5
          have h6 : w.cell? ⟨blk, off + (j * P.cellsOf e + c), none⟩ = some u := h5
          rw [h6]; exact hr)
      rw [hlen] at this
      exact this
    · obtain ⟨i, rfl⟩ := List.mem_ofFn.1 hxs
      obtain ⟨_, _, h5⟩ := Classical.choose_spec (hx i)
      exact h5
theorem opF_one {Q : List AV → Prop} {f : Field} {off sz : Nat} (hd : Op P c f.type Q) (ho : f.offset = off) (hz : P.cellsOf f.type = sz) : OpF P c [f] off sz Q := by
  intro H enc w base spare held fuel cs hl hf hsp
  obtain ⟨y, hy⟩ := hf f (List.mem_singleton.2 rfl)
  obtain ⟨av, h1, h2, h3⟩ := hd _ _ _ _ _ _ _ _ _ hy (fun h a len cap hm => hsp h a len cap (List.mem_of_mem_drop (List.mem_of_mem_take hm)))
  rw [ho, hz, List.take_of_length_le (by rw [List.length_drop]; omega)] at h1
  exact ⟨av, h1, h2, h3⟩
theorem opF_cons {Q Q' : List AV → Prop} {f : Field} {fs : List Field} {off sz sz' : Nat} (hd : Op P c f.type Q) (ho : f.offset = off) (hz : P.cellsOf f.type = sz)
    (hr : OpF P c fs (off + sz) sz' Q') : OpF P c (f :: fs) off (sz + sz') (isTwo Q Q') := by
  intro H enc w base spare held fuel cs hl hf hsp
  obtain ⟨y, hy⟩ := hf f List.mem_cons_self
  obtain ⟨av, h1, h2, h3⟩ := hd _ _ _ _ _ _ _ _ _ hy (fun h a len cap hm => hsp h a len cap (List.mem_of_mem_drop (List.mem_of_mem_take hm)))
  obtain ⟨bs, g1, g2, g3⟩ := hr H enc w base spare held fuel cs (by omega) (fun g hg => hf g (List.mem_cons_of_mem _ hg)) hsp
  rw [ho, hz] at h1
  refine ⟨av ++ bs, fun β U => ?_, fun a ha => (List.mem_append.1 ha).elim (h2 a) (g2 a), av, bs, rfl, h3, g3⟩
  have := (h1 β U).append (g1 β U)
  rwa [← List.drop_drop, List.take_append_drop] at this
theorem op_struct {Q : List AV → Prop} {fs : Array Field} {sz : Nat} (ht : P.underlying t = some (.struct fs)) (hf : OpF P c fs.toList 0 sz Q) (hz : P.cellsOf t = sz) : Op P c t Q := by
  intro H enc w base spare held fuel cs x h hsp
  obtain ⟨xs, n, _, _, hl, hxl, hx⟩ := DataW.trod_struct ht h
  obtain ⟨av, h1, h2, h3⟩ := hf H enc w base spare held n cs (by rw [hl, hz]; omega) (fun q hq => by
    obtain ⟨i, hi, rfl⟩ := List.getElem_of_mem hq
    have hi' : i < fs.size := by simpa using hi
    refine ⟨xs[i]'(by omega), ?_⟩
    rw [hx i _ (by simp), List.getElem?_eq_getElem (by omega)]) hsp
  exact ⟨av, by simpa using h1, h2, h3⟩
theorem spot_of_okWide {w : World} {r : Reach} {base : Nat} {cs : Array Value} (h : Row.okWide P w r base t cs) (a : Addr) (len cap : Nat) (hm : Value.slice (some a) len cap ∈ cs.toList) : a.spot = none := by
  obtain ⟨ts, _, _, hc⟩ := h
  obtain ⟨i, hi⟩ := List.getElem?_of_mem hm
  obtain ⟨u, _, hu⟩ := hc i _ (by simpa using hi)
  unfold Cell.okWide at hu
  split at hu <;> first | (rename_i h1 h2; cases h2; done) | skip
  unfold Cell.ok at hu
  split at hu <;> first | (rename_i h1 h2; cases h2; exact hu.2.2.2.1) | (rename_i h1 h2; cases h2; done) | exact hu.elim
end
/-- A list's elements, told one by one. -/
theorem list_of {α : Type} {Q : List AV → Prop} {W : α → Prop} {f : α → List AV} (h : ∀ xs, Q xs → ∃ a, xs = f a ∧ W a) : ∀ es : List (List AV), (∀ xs ∈ es, Q xs) → ∃ av : List α, es = av.map f ∧ ∀ a ∈ av, W a
  | [], _ => ⟨[], rfl, by simp⟩
  | xs :: es, hq => by
    obtain ⟨a, rfl, h1⟩ := h xs (hq xs (by simp))
    obtain ⟨av, rfl, h2⟩ := list_of h es fun y hy => hq y (by simp [hy])
    exact ⟨a :: av, rfl, fun b hb => (List.mem_cons.1 hb).elim (fun e => e ▸ h1) (h2 b)⟩
theorem law_args {f : FuncId} {args : List PV} (h : FnM Try.prog f [] args fun o => o = { res := .pv (false, [.b true]) }) {W : World} {vals : Array Value} (hl : args.length = vals.size)
    (hr : ∀ (j : Nat) (x : PV) (u : Value), args[j]? = some x → vals[j]? = some u → RepP (Rep Try.prog (fun _ _ => False) id (fun _ => false) W) x u) :
    Calls Try.prog f vals W fun e W' => e = .returned (.bool true) ∧ Below W.heap.size W W' := by
  refine (h.2 (fun _ _ => False) id (fun _ => false) W vals (fun _ _ h => h.elim) rfl (fun p hp => by cases hp) (fun p hp => by cases hp) hl hr).mono ?_
  rintro e W' ⟨v, o, F', bn, τ, rfl, rfl, hret⟩
  have h1 := (RepP.one_inv hret.res).2.1
  refine ⟨?_, hret.os, hret.tape, hret.out, hret.size, fun k hk => hret.block k hk fun p hp => by cases hp⟩
  cases h1
  rfl
end Go.Proofs.Ytpeejmolbmhjjaa.Sx
