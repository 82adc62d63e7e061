/- Slices as lists of rows of cells, and how the relation goes on behind an append; there is no condition beyond those each statement names. -/
import Derived.Test.YtpeejmolbmhjjaaNSy1
namespace Go.Proofs.Ytpeejmolbmhjjaa.Sx
set_option linter.unusedSimpArgs false
set_option linter.unusedVariables false
open Go
theorem flat_get {α : Type} (sz : Nat) : ∀ (es : List (List α)), (∀ xs ∈ es, xs.length = sz) → ∀ j c, c < sz → es.flatten[j * sz + c]? = (es[j]?).bind (·[c]?)
  | [], _, j, c, _ => by simp
  | xs :: es, h, j, c, hc => by
    have hx : xs.length = sz := h xs (by simp)
    rw [List.flatten_cons, List.getElem?_append]
    cases j with
    | zero => simp [hx, hc]
    | succ j =>
      have h1 : ¬ ((j + 1) * sz + c < xs.length) := by rw [hx, Nat.add_mul]; omega
      rw [if_neg h1]
      have h2 : (j + 1) * sz + c - xs.length = j * sz + c := by rw [hx, Nat.add_mul]; omega
      rw [h2, flat_get sz es (fun y hy => h y (by simp [hy])) j c hc]
      simp
theorem flat_len {α : Type} (sz : Nat) : ∀ (es : List (List α)), (∀ xs ∈ es, xs.length = sz) → es.flatten.length = es.length * sz
  | [], _ => by simp
  | xs :: es, h => by
    rw [List.flatten_cons, List.length_append, flat_len sz es (fun y hy => h y (by simp [hy])), h xs (by simp), List.length_cons, Nat.add_mul]
    omega
section
variable {P : Program} {F : Nat → Nat → Prop} {β : Nat → Nat} {U : Nat → Bool} {w : World}
theorem Rep.mkLst (t v : Nat) (e : TypeId) (es : List (List AV)) (blk off cap : Nat) (vs : List Value) (hcap : es.length ≤ cap) (hlen : ∀ xs ∈ es, xs.length = P.cellsOf e)
    (hcl : ∀ xs ∈ es, ∀ x ∈ xs, x.clean = true) (hr : RepL (Rep P F β U w) es.flatten vs)
    (hw : ∀ (j : Nat) (u : Value), vs[j]? = some u → w.cell? ⟨blk, off + j, none⟩ = some u ∧ ¬ F blk (off + j)) :
    Rep P F β U w (.lst t v e es) (.slice (some ⟨blk, off, none⟩) es.length cap) := by
  have key : ∀ (j c : Nat) (xs : List AV) (x : AV), es[j]? = some xs → xs[c]? = some x → ∃ u, vs[j * P.cellsOf e + c]? = some u ∧ Rep P F β U w x u := fun j c xs x hx hy => by
    have hc : c < P.cellsOf e := by rw [← hlen xs (List.mem_of_getElem? hx)]; exact (List.getElem?_eq_some_iff.1 hy).1
    exact hr.get (by rw [flat_get (P.cellsOf e) es hlen j c hc, hx]; exact hy)
  refine .lst t v e es blk off cap (fun j c => vs.getD (j * P.cellsOf e + c) undef) hcap hlen (fun j c xs x hx hy => ?_) (fun j c xs x hx hy => ?_)
  · obtain ⟨u, hu, _⟩ := key j c xs x hx hy
    refine ⟨hcl xs (List.mem_of_getElem? hx) x (List.mem_of_getElem? hy), ?_⟩
    have := hw _ u hu
    simp only [List.getD, hu, Option.getD_some]
    exact this
  · obtain ⟨u, hu, h2⟩ := key j c xs x hx hy
    simp only [List.getD, hu, Option.getD_some]
    exact h2
theorem Rep.lst_inv {t v : Nat} {e : TypeId} {es : List (List AV)} {ad : Addr} {len cap : Nat} (h : Rep P F β U w (.lst t v e es) (.slice (some ad) len cap)) (hs0 : ad.spot = none) :
    len = es.length ∧ es.length ≤ cap ∧ ad.spot = none ∧ (∀ xs ∈ es, xs.length = P.cellsOf e) ∧ (∀ xs ∈ es, ∀ x ∈ xs, x.clean = true) ∧
      ∃ vs, RepL (Rep P F β U w) es.flatten vs ∧ ∀ (j : Nat) (u : Value), vs[j]? = some u → w.cell? (ad.add j) = some u ∧ ¬ F ad.block (ad.off + j) := by
  cases h with
  | emp => exact ⟨rfl, Nat.zero_le _, hs0, (fun xs hx => by cases hx), (fun xs hx => by cases hx), [], RepL.nil, (fun j u hu => by simp at hu)⟩
  | lst _ _ _ _ blk off cap vals hcap hlen h1 h2 =>
    refine ⟨rfl, hcap, rfl, hlen, fun xs hxs x hx => ?_, ?_⟩
    · obtain ⟨j, hj⟩ := List.getElem?_of_mem hxs
      obtain ⟨c, hc⟩ := List.getElem?_of_mem hx
      exact (h1 j c xs x hj hc).1
    · have hadd : ∀ j, (⟨blk, off, none⟩ : Addr).add j = ⟨blk, off + j, none⟩ := fun j => by unfold Addr.add; split <;> simp_all
      refine ⟨(List.range (es.length * P.cellsOf e)).map fun k => vals (k / P.cellsOf e) (k % P.cellsOf e), ⟨by simp [flat_len _ es hlen], fun j x u hx hu => ?_⟩, fun j u hu => ?_⟩
      · simp only [List.getElem?_map] at hu
        have hj : j < es.length * P.cellsOf e := by rw [← flat_len _ es hlen]; exact (List.getElem?_eq_some_iff.1 hx).1
        have hs : 0 < P.cellsOf e := Nat.pos_of_ne_zero fun h0 => by simp [h0] at hj
        have hd : j = j / P.cellsOf e * P.cellsOf e + j % P.cellsOf e := by rw [Nat.mul_comm]; exact (Nat.div_add_mod j _).symm
        rw [hd, flat_get _ es hlen _ _ (Nat.mod_lt _ hs)] at hx
        rw [List.getElem?_range hj] at hu
        simp only [Option.map_some, Option.some.injEq] at hu
        subst hu
        cases hq : es[j / P.cellsOf e]? with
        | none => simp [hq] at hx
        | some xs => simp [hq] at hx; exact h2 _ _ xs x hq hx
      · simp only [List.getElem?_map] at hu
        have hj : j < es.length * P.cellsOf e := by
          by_cases hj : j < es.length * P.cellsOf e
          · exact hj
          · rw [List.getElem?_eq_none (by simp; omega)] at hu; simp at hu
        have hs : 0 < P.cellsOf e := Nat.pos_of_ne_zero fun h0 => by simp [h0] at hj
        have hd : j / P.cellsOf e * P.cellsOf e + j % P.cellsOf e = j := by rw [Nat.mul_comm]; exact Nat.div_add_mod j _
        rw [List.getElem?_range hj] at hu
        simp only [Option.map_some, Option.some.injEq] at hu
        subst hu
        have hq : j / P.cellsOf e < es.length := Nat.div_lt_of_lt_mul (by rw [Nat.mul_comm]; exact hj)
        have hm := Nat.mod_lt j hs
        have hx := List.getElem?_eq_getElem hq
        have hl := hlen _ (List.getElem_mem hq)
        have hy := List.getElem?_eq_getElem (l := es[j / P.cellsOf e]) (i := j % P.cellsOf e) (by omega)
        have := (h1 _ _ _ _ hx hy).2
        rw [hd] at this
        rw [hadd]
        exact this
theorem RepL.oneCells {cs : List AV} {vs : List Value} (h : RepL (Rep P F β U w) cs vs) : ∀ u ∈ vs, u.oneCell' = true := fun u hu => by
  obtain ⟨j, hj⟩ := List.getElem?_of_mem hu
  have hlt : j < cs.length := by rw [h.1]; exact (List.getElem?_eq_some_iff.1 hj).1
  exact (h.2 j _ u (List.getElem?_eq_getElem hlt) hj).oneCell
end
section
variable {P : Program} {G : Gd} {f : FS} {C : Cx} {a : Act} {w : World}
/-- Behind an append that makes a new row with spare places. -/
theorem Rel.grow (h : Rel P G f C a w) (t v' : Nat) (hf : f.ut t = false ∨ ∃ c, f.cur t = some c ∧ c < v') (h0 : t ≠ 0) (h1 : t ≠ 1) (arr : Array Value) (ty : TypeId) (hi : Nat) :
    Rel P G { f with cur := fun k => if k = t then some v' else f.cur k, ut := fun k => Nat.beq k t || f.ut k }
      { C with F := fun k o => C.F k o ∨ (k = w.heap.size ∧ hi ≤ o), τ := fun k => if k = t then some (w.heap.size, hi, arr.size) else C.τ k } a (w.alloc (.cells arr ty)) := by
  have keep : ∀ x v, RepA P C f w x v → RepA P { C with F := fun k o => C.F k o ∨ (k = w.heap.size ∧ hi ≤ o), τ := fun k => if k = t then some (w.heap.size, hi, arr.size) else C.τ k }
      { f with cur := fun k => if k = t then some v' else f.cur k, ut := fun k => Nat.beq k t || f.ut k } (w.alloc (.cells arr ty)) x v :=
    RepA.keep (fun k c u hc hF => ⟨cell_alloc hc, fun hh => hh.elim hF (fun e => by have := cell_lt hc; omega)⟩) (fun k hk => ⟨hk, rfl⟩)
      (fun k hk => ⟨by simp [hk], fun c hc => by
        by_cases hkt : k = t
        · subst hkt
          simp only [if_true, Option.some.injEq] at hc
          subst hc
          rcases hf with hf | hf
          · rw [hk] at hf; cases hf
          · exact .inr hf
        · simp only [hkt, if_false] at hc; exact .inl ⟨hc, by simp [hkt]⟩⟩) rfl (Plain.alloc w _)
  exact { h with
    env := fun k => (h.env k).mono keep
    mem := fun k cs' hb => by
      obtain ⟨h1, ⟨arr', ty', h2, h3⟩, h4, h5⟩ := h.mem k cs' hb
      exact ⟨h1, ⟨arr', ty', heap_alloc h2, h3.mono keep⟩, h4, fun o => .inl (h5 o)⟩
    tok := fun k v blk hi2 top hc ht => by
      by_cases hk : k = t
      · simp only [hk, if_true, Option.some.injEq, Prod.mk.injEq] at ht
        obtain ⟨rfl, rfl, rfl⟩ := ht
        refine ⟨⟨arr, ty, heap_alloc_new w _, rfl⟩, h.size, fun o ho => .inr ⟨rfl, ho⟩, fun b cs hb => ?_⟩
        obtain ⟨_, ⟨arr', ty', h2, _⟩, _⟩ := h.mem b cs hb
        have := heap_lt h2
        simp only; omega
      · simp only [hk, if_false] at hc ht
        obtain ⟨⟨arr', ty', h1, h2⟩, h3, h4, h5⟩ := h.tok k v blk hi2 top hc ht
        exact ⟨⟨arr', ty', heap_alloc h1, h2⟩, h3, fun o ho => .inl (h4 o ho), h5⟩
    tin := fun k k' v v2 blk hi1 top hi' top' hc hc' ht ht' => by
      have old : ∀ j vj hj tj, f.cur j = some vj → C.τ j = some (w.heap.size, hj, tj) → False := fun j vj hj tj hcj htj => by
        obtain ⟨⟨arr', ty', h1, h2⟩, _⟩ := h.tok j vj _ hj tj hcj htj
        have := heap_lt h1; omega
      by_cases hk : k = t <;> by_cases hk' : k' = t
      · rw [hk, hk']
      · simp only [hk, hk', if_true, if_false, Option.some.injEq, Prod.mk.injEq] at hc hc' ht ht'
        obtain ⟨rfl, rfl, rfl⟩ := ht
        exact (old k' _ _ _ hc' ht').elim
      · simp only [hk, hk', if_true, if_false, Option.some.injEq, Prod.mk.injEq] at hc hc' ht ht'
        obtain ⟨rfl, rfl, rfl⟩ := ht'
        exact (old k _ _ _ hc ht).elim
      · simp only [hk, hk', if_false] at hc hc' ht ht'; exact h.tin k k' v v2 blk hi1 top hi' top' hc hc' ht ht'
    cut := fun k v hc => by
      by_cases hk : k = t
      · simp [hk]
      · simp only [hk, if_false] at hc; simp [h.cut k v hc]
    one := ⟨by simp [Ne.symm h1, h.one.1], by simp [Ne.symm h1, h.one.2.1], by simp [h.one.2.2]⟩
    zro := by simp [Ne.symm h0, h.zro]
    F0 := fun k o hF => .inl (h.F0 k o hF)
    new := fun k o hF => by
      rcases hF with hF | ⟨rfl, _⟩
      · exact h.new k o hF
      · exact .inr (.inl h.size)
    lt := fun k o hF => by
      simp only [World.size_alloc]
      rcases hF with hF | ⟨rfl, _⟩
      · have := h.lt k o hF; omega
      · omega
    size := by have := h.size; simp only [World.size_alloc]; omega
    block := fun k hk hp => by rw [heap_alloc_old w _ k (by have := h.size; omega)]; exact h.block k hk hp }
/-- Behind an append into the spare places. -/
theorem Rel.room (h : Rel P G f C a w) (t c blk hi top : Nat) (hcur : f.cur t = some c) (hτ : C.τ t = some (blk, hi, top)) (h1 : t ≠ 1) (h0 : t ≠ 0)
    (arr : Array Value) (ty : TypeId) (hg : w.heap[blk]? = some (.cells arr ty (0, 0))) (arr' : Array Value) (hi' : Nat) (hhi : hi ≤ hi') (hsz : arr'.size = arr.size)
    (hsame : ∀ j : Nat, j < hi → arr'[j]? = arr[j]?) :
    Rel P G { f with cur := fun k => if k = t then some (c + 1) else f.cur k }
      { C with F := fun k o => C.F k o ∧ ¬ (k = blk ∧ o < hi'), τ := fun k => if k = t then some (blk, hi', top) else C.τ k } a (w.setRow blk arr') := by
  obtain ⟨⟨arr2, ty2, hg2, htop⟩, hblk, hF, hbox⟩ := h.tok t c blk hi top hcur hτ
  rw [hg] at hg2
  obtain ⟨rfl, rfl⟩ : arr = arr2 ∧ ty = ty2 := by injection hg2 with e; injection e with e1 e2; exact ⟨e1, e2⟩
  have keep : ∀ x v, RepA P C f w x v → RepA P { C with F := fun k o => C.F k o ∧ ¬ (k = blk ∧ o < hi'), τ := fun k => if k = t then some (blk, hi', top) else C.τ k }
      { f with cur := fun k => if k = t then some (c + 1) else f.cur k } (w.setRow blk arr') x v :=
    RepA.keep (fun k o u hc hn => ⟨by
        by_cases hk : k = blk
        · subst hk
          rw [cell_setRow_same _ _ _ arr _ _ _ hg, hsame o (Nat.lt_of_not_le fun hle => hn (hF o hle)), ← cell_of_row w k o arr ty (0, 0) hg]; exact hc
        · rw [cell_setRow_other _ _ _ _ hk]; exact hc, fun hh => hn hh.1⟩) (fun k hk => ⟨hk, rfl⟩)
      (fun k hk => ⟨hk, fun v hv => by
        by_cases hkt : k = t
        · subst hkt
          simp only [if_true, Option.some.injEq] at hv
          exact .inr ⟨c, hcur, by omega⟩
        · simp only [hkt, if_false] at hv; exact .inl ⟨hv, by simp [hkt]⟩⟩) rfl (Plain.setRow w _ _ hg)
  exact { h with
    env := fun k => (h.env k).mono keep
    mem := fun k cs' hb => by
      obtain ⟨h1, ⟨arr3, ty3, h2, h3⟩, h4, h5⟩ := h.mem k cs' hb
      have hne := hbox k cs' hb
      exact ⟨h1, ⟨arr3, ty3, by rw [setRow_other _ _ _ _ hne]; exact h2, h3.mono keep⟩, h4, fun o => ⟨h5 o, fun e => hne e.1⟩⟩
    tok := fun k v blk2 hi2 top2 hc ht => by
      by_cases hk : k = t
      · simp only [hk, if_true, Option.some.injEq, Prod.mk.injEq] at ht
        obtain ⟨rfl, rfl, rfl⟩ := ht
        exact ⟨⟨arr', ty, setRow_heap w _ arr _ ty _ hg, by rw [hsz, htop]⟩, hblk, fun o ho => ⟨hF o (by omega), fun e => by omega⟩, hbox⟩
      · simp only [hk, if_false] at hc ht
        obtain ⟨⟨arr3, ty3, h2, h3⟩, h4, h5, h6⟩ := h.tok k v blk2 hi2 top2 hc ht
        have hne : blk2 ≠ blk := fun e => by subst e; exact hk (h.tin k t v c blk2 hi2 top2 hi top hc hcur ht hτ)
        exact ⟨⟨arr3, ty3, by rw [setRow_other _ _ _ _ hne]; exact h2, h3⟩, h4, fun o ho => ⟨h5 o ho, fun e => hne e.1⟩, h6⟩
    tin := fun k k' v v2 blk2 hi1 top1 hi2 top2 hc hc' ht ht' => by
      by_cases hk : k = t <;> by_cases hk' : k' = t
      · rw [hk, hk']
      · simp only [hk, hk', if_true, if_false, Option.some.injEq, Prod.mk.injEq] at hc hc' ht ht'
        obtain ⟨rfl, rfl, rfl⟩ := ht
        rw [hk]; exact h.tin t k' c v2 blk hi top hi2 top2 hcur hc' hτ ht'
      · simp only [hk, hk', if_true, if_false, Option.some.injEq, Prod.mk.injEq] at hc hc' ht ht'
        obtain ⟨rfl, rfl, rfl⟩ := ht'
        rw [hk']; exact h.tin k t v c blk hi1 top1 hi top hc hcur ht hτ
      · simp only [hk, hk', if_false] at hc hc' ht ht'; exact h.tin k k' v v2 blk2 hi1 top1 hi2 top2 hc hc' ht ht'
    cut := fun k v hc => by
      by_cases hk : k = t
      · rw [hk]; exact h.cut t c hcur
      · simp only [hk, if_false] at hc; exact h.cut k v hc
    one := ⟨by simp [Ne.symm h1, h.one.1], by simp [Ne.symm h1, h.one.2.1], h.one.2.2⟩
    zro := by simp [Ne.symm h0, h.zro]
    F0 := fun k o hFF => ⟨h.F0 k o hFF, fun e => by have := h.glt k o hFF; omega⟩
    new := fun k o hFF => h.new k o hFF.1
    lt := fun k o hFF => by simpa using h.lt k o hFF.1
    os := h.os, tape := h.tape, out := h.out
    size := by simpa using h.size
    block := fun k hk hp => by rw [setRow_other _ _ _ _ (by omega)]; exact h.block k hk hp }
/-- Behind an append of nothing. -/
theorem Rel.bump (h : Rel P G f C a w) (t c : Nat) (hcur : f.cur t = some c) (h1 : t ≠ 1) :
    Rel P G { f with cur := fun k => if k = t then some (c + 1) else f.cur k } C a w := by
  have keep : ∀ x v, RepA P C f w x v → RepA P C { f with cur := fun k => if k = t then some (c + 1) else f.cur k } w x v :=
    RepA.keep (fun k o u hc hn => ⟨hc, hn⟩) (fun k hk => ⟨hk, rfl⟩)
      (fun k hk => ⟨hk, fun v hv => by
        by_cases hkt : k = t
        · subst hkt
          simp only [if_true, Option.some.injEq] at hv
          exact .inr ⟨c, hcur, by omega⟩
        · simp only [hkt, if_false] at hv; exact .inl ⟨hv, rfl⟩⟩) rfl (Plain.same w)
  have cur' : ∀ k v, (if k = t then some (c + 1) else f.cur k) = some v → ∃ v', f.cur k = some v' := fun k v hc => by
    by_cases hk : k = t
    · exact ⟨c, by rw [hk]; exact hcur⟩
    · simp only [hk, if_false] at hc; exact ⟨v, hc⟩
  exact { h with
    env := fun k => (h.env k).mono keep
    mem := fun k cs' hb => by
      obtain ⟨h1, ⟨arr3, ty3, h2, h3⟩, h4⟩ := h.mem k cs' hb
      exact ⟨h1, ⟨arr3, ty3, h2, h3.mono keep⟩, h4⟩
    tok := fun k v blk hi top hc ht => by obtain ⟨v', hv'⟩ := cur' k v hc; exact h.tok k v' blk hi top hv' ht
    tin := fun k k' v v2 blk hi top hi' top' hc hc' ht ht' => by
      obtain ⟨x, hx⟩ := cur' k v hc
      obtain ⟨y, hy⟩ := cur' k' v2 hc'
      exact h.tin k k' x y blk hi top hi' top' hx hy ht ht'
    cut := fun k v hc => by obtain ⟨v', hv'⟩ := cur' k v hc; exact h.cut k v' hv'
    one := ⟨by simp [Ne.symm h1, h.one.1], h.one.2⟩
    zro := by
      have h0 : t ≠ 0 := fun e => by rw [e, h.zro] at hcur; cases hcur
      simp [Ne.symm h0, h.zro] }
end
end Go.Proofs.Ytpeejmolbmhjjaa.Sx
