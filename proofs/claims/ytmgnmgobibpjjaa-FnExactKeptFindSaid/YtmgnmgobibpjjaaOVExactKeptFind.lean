/- What is read of an argument, at any type built of whole numbers, bools, strings, slices and structs, is a value of the printed kinds; there is no condition beyond the types' own tables. -/
import Derived.Test.YtmgnmgobibpjjaaVExactKeptFindMore
import Derived.Deep.Slices
import Derived.ChangeSame
set_option linter.unusedVariables false
set_option linter.unusedSimpArgs false
namespace Go.Proofs.Ytmgnmgobibpjjaa.Opn
open Go.RowKit Go.ChangeShapes Go.WideShapes Go.Deep Go.Proofs.YtmgnmgobibpjjaaVExactKeptFind.PrintWords

/-- What is read at type t is a value of this kind, well formed. -/
def Opens {α : Type} (P : Program) (t : TypeId) (d : Kd α) (Wf : α → Prop) : Prop :=
  ∀ (H : Type) (enc : TypeId × Value → H) (w : World) (base : Nat) (spare : Nat → Bool) (held : Bool) (fuel : Nat) (cs : List Value) (x : DataW H × List MemPlace),
    DataW.trod enc P w base spare held fuel t cs = some x → ∃ a : α, d.K w a cs ∧ Wf a
/-- The same of a struct's fields from one on. -/
def OpensF {α : Type} (P : Program) (fs : List Field) (off : Nat) (d : Kd α) (Wf : α → Prop) : Prop :=
  ∀ (H : Type) (enc : TypeId × Value → H) (w : World) (base : Nat) (spare : Nat → Bool) (held : Bool) (fuel : Nat) (cs : List Value), cs.length = off + d.sz →
    (∀ f ∈ fs, ∃ y : DataW H × List MemPlace, DataW.trod enc P w base spare held fuel f.type ((cs.drop f.offset).take (P.cellsOf f.type)) = some y) → ∃ a : α, d.K w a (cs.drop off) ∧ Wf a
section
variable {P : Program} {t e : TypeId}
theorem opens_int {k : IntKind} (ht : P.underlying t = some (.int k)) : Opens P t (Kd.int k) (fun n => (Lit.int k n).wf = true) := by
  intro H enc w base spare held fuel cs x h
  obtain ⟨n, rfl, _, hw⟩ := DataW.trod_int ht h
  exact ⟨n, rfl, hw⟩
theorem opens_bool (ht : P.underlying t = some .bool) : Opens P t Kd.bool (fun _ => True) := by
  intro H enc w base spare held fuel cs x h
  obtain ⟨n, rfl, _⟩ := DataW.trod_bool ht h
  exact ⟨n, rfl, trivial⟩
theorem opens_string (ht : P.underlying t = some .string) : Opens P t Kd.string (fun s => s.size ≤ maxLen) := by
  intro H enc w base spare held fuel cs x h
  obtain ⟨n, rfl, _, hw⟩ := DataW.trod_string ht h
  exact ⟨n, rfl, hw⟩
theorem opens_slice {α : Type} {d : Kd α} {Wf : α → Prop} (ht : P.underlying t = some (.slice e)) (hd : Opens P e d Wf) (hz : P.cellsOf e = d.sz) (E : Nat) :
    Opens P t (Kd.slice E d) (fun xs => xs.length ≤ maxLen ∧ ∀ x ∈ xs, Wf x) := by
  intro H enc w base spare held fuel cs x h
  rcases open_slice ht h with ⟨rfl, _⟩ | ⟨a, len, cap, m, n, D, Pl, rfl, hb, hl, hm, hmm, _, hi⟩
  · exact ⟨[], ⟨none, 0, rfl, Nat.le_refl _, rfl, by simp, fun h => absurd h (by simp)⟩, by simp, by simp⟩
  · have hlm : len ≤ m := by rw [hmm]; split <;> omega
    have hx : ∀ i : Fin len, ∃ y : α, ∃ c : List Value, c.length = d.sz ∧ d.K w y c ∧ Wf y ∧ ∀ j u, c[j]? = some u → w.cell? (a.add (i.val * d.sz + j)) = some u := by
      intro i
      obtain ⟨c, hc, ht'⟩ := hi i.val (by omega)
      obtain ⟨y, hK, hW⟩ := hd _ _ _ _ _ _ _ _ _ ht'
      refine ⟨y, c, d.K_len hK, hK, hW, fun j u hu => ?_⟩
      rw [hz] at hc
      obtain ⟨_, hcl, hat⟩ := World.cells?_some hc
      have hj : j < c.length := (List.getElem?_eq_some_iff.1 hu).1
      have := hat j (by omega)
      rw [Go.Deep.add_add] at this
      exact this.trans hu
    have hlen : (List.ofFn fun i => Classical.choose (hx i)).length = len := List.length_ofFn
    have hm' : len ≤ 9223372036854775807 := by unfold maxLen at hm; omega
    refine ⟨List.ofFn fun i => Classical.choose (hx i), ⟨some a, cap, by rw [hlen], by rw [hlen]; exact hl, rfl, by rw [hlen]; exact hm', fun _ => ⟨a, rfl, fun j p hj => ?_⟩⟩, by rw [hlen]; omega, fun x hx' => ?_⟩
    · have hjl : j < len := by
        have := (List.getElem?_eq_some_iff.1 hj).1
        omega
      have hp : Classical.choose (hx ⟨j, hjl⟩) = p := by
        rw [List.getElem?_ofFn, dif_pos hjl] at hj
        exact Option.some.inj hj
      obtain ⟨c, h1, h2, h3, h4⟩ := Classical.choose_spec (hx ⟨j, hjl⟩)
      rw [hp] at h2
      exact ⟨c, h1, h2, h4⟩
    · obtain ⟨i, rfl⟩ := List.mem_ofFn.1 hx'
      obtain ⟨c, h1, h2, h3, h4⟩ := Classical.choose_spec (hx i)
      exact h3
theorem opensF_one {α : Type} {d : Kd α} {Wf : α → Prop} {f : Field} {off : Nat} (hd : Opens P f.type d Wf) (ho : f.offset = off) (hz : P.cellsOf f.type = d.sz) : OpensF P [f] off d Wf := by
  intro H enc w base spare held fuel cs hl hf
  obtain ⟨y, hy⟩ := hf f (List.mem_singleton.2 rfl)
  obtain ⟨a, hK, hW⟩ := hd _ _ _ _ _ _ _ _ _ hy
  rw [ho, hz, List.take_of_length_le (by rw [List.length_drop]; omega)] at hK
  exact ⟨a, hK, hW⟩
theorem opensF_cons {α β : Type} {d : Kd α} {d' : Kd β} {Wf : α → Prop} {Wf' : β → Prop} {f : Field} {fs : List Field} {off : Nat} (hd : Opens P f.type d Wf) (ho : f.offset = off) (hz : P.cellsOf f.type = d.sz)
    (hr : OpensF P fs (off + d.sz) d' Wf') : OpensF P (f :: fs) off (Kd.pair d d') (fun a => Wf a.1 ∧ Wf' a.2) := by
  intro H enc w base spare held fuel cs hl hf
  obtain ⟨y, hy⟩ := hf f List.mem_cons_self
  obtain ⟨a, hK, hW⟩ := hd _ _ _ _ _ _ _ _ _ hy
  have hl' : cs.length = off + d.sz + d'.sz := by rw [hl]; show off + (d.sz + d'.sz) = _; omega
  obtain ⟨b, hK', hW'⟩ := hr H enc w base spare held fuel cs hl' (fun g hg => hf g (List.mem_cons_of_mem _ hg))
  rw [ho, hz] at hK
  refine ⟨(a, b), ⟨_, _, ?_, hK, hK'⟩, hW, hW'⟩
  rw [← List.drop_drop, List.take_append_drop]
theorem opens_struct {α β : Type} {d : Kd α} {Wf : α → Prop} {fs : Array Field} (ht : P.underlying t = some (.struct fs)) (hf : OpensF P fs.toList 0 d Wf) (hz : P.cellsOf t = d.sz) (f : β → α) (g : α → β) (hfg : ∀ a, f (g a) = a) :
    Opens P t (Kd.iso d f) (fun b => Wf (f b)) := by
  intro H enc w base spare held fuel cs x h
  obtain ⟨xs, n, _, _, hl, hxl, hx⟩ := DataW.trod_struct ht h
  obtain ⟨a, hK, hW⟩ := hf H enc w base spare held n cs (by rw [hl, hz]; omega) (fun q hq => by
    obtain ⟨i, hi, rfl⟩ := List.getElem_of_mem hq
    have hi' : i < fs.size := by simpa using hi
    refine ⟨xs[i]'(by omega), ?_⟩
    rw [hx i _ (by simp), List.getElem?_eq_getElem (by omega)])
  refine ⟨g a, ?_, (show Wf (f (g a)) by rw [hfg]; exact hW)⟩
  show d.K w (f (g a)) cs
  rw [hfg]
  simpa using hK
theorem opens_structP {α : Type} {d : Kd α} {Wf : α → Prop} {fs : Array Field} (ht : P.underlying t = some (.struct fs)) (hf : OpensF P fs.toList 0 d Wf) (hz : P.cellsOf t = d.sz) : Opens P t d Wf :=
  opens_struct ht hf hz (fun a => a) (fun a => a) (fun _ => rfl)
end
end Go.Proofs.Ytmgnmgobibpjjaa.Opn
