/- How the relation between the plain state and the machine's state goes on behind a draw, a new block, a store, an append; there is no condition beyond those each statement names. -/
import Derived.Test.YtpeejmolbmhjjaaNSy0
namespace Go.Proofs.Ytpeejmolbmhjjaa.Sx
set_option linter.unusedSimpArgs false
set_option linter.unusedVariables false
open Go
section
variable {P : Program} {G : Gd} {f f' : FS} {C C' : Cx} {a : Act} {w w' : World}
theorem RepA.keep (hc : ∀ b o u, w.cell? ⟨b, o, none⟩ = some u → ¬ C.F b o → w'.cell? ⟨b, o, none⟩ = some u ∧ ¬ C'.F b o)
    (hb : ∀ b, f.ub b = true → f'.ub b = true ∧ C'.β b = C.β b)
    (ht : ∀ t, f.ut t = true → f'.ut t = true ∧ ∀ c, f'.cur t = some c → (f.cur t = some c ∧ C'.τ t = C.τ t) ∨ ∃ c0, f.cur t = some c0 ∧ c0 < c)
    (hβ : C'.β K0 = C.β K0) (hz : Plain w w')
    (x : AV) (v : Value) (h : RepA P C f w x v) : RepA P C' f' w' x v := by
  refine ⟨h.1.keep hc hb hβ hz, ?_⟩
  have h2 := h.2
  unfold Tip at h2 ⊢
  split
  · rename_i t ver e es ad len cap
    simp only at h2
    rcases h2 with h2 | ⟨h2, h3⟩
    · exact .inl h2
    · refine .inr ⟨(ht t h2).1, fun c hcur => ?_⟩
      rcases (ht t h2).2 c hcur with ⟨h4, h5⟩ | ⟨c0, h4, h5⟩
      · rw [h5]; exact h3 c h4
      · have := (h3 c0 h4).1
        exact ⟨by omega, fun hh => absurd hh (by omega)⟩
  · trivial

def FS.setE (f : FS) (dst : Option Tmp) (x : TV) : FS := { f with env := match dst with | none => f.env | some d => fun k => if k = d then x else f.env k }
theorem repA_setE (dst : Option Tmp) (x : TV) : RepA P C (f.setE dst x) w = RepA P C f w := rfl
theorem Rel.put (h : Rel P G f C a w) (dst : Option Tmp) (hd : ∀ d, dst = some d → d < G.n) (x : TV) (v : Value) (hv : RepT (RepA P C f w) x v) :
    Rel P G (f.setE dst x) C (a.put dst v) w := by
  cases dst with
  | none => exact { h with }
  | some d =>
    have hdn := hd d rfl
    refine { h with sz := by simp [Act.put, h.sz], df := h.df, env := fun k => ?_ }
    rw [repA_setE]
    by_cases hk : k = d
    · subst hk
      have : (a.put (some k) v).tmps.getD k undef = v := by simp [Act.put, h.sz, hdn]
      rw [this]
      simpa [FS.setE] using hv
    · have : (a.put (some d) v).tmps.getD k undef = a.tmps.getD k undef := by simp [Act.put, Array.getElem?_setIfInBounds_ne (Ne.symm hk)]
      rw [this]
      have he : (f.setE (some d) x).env k = f.env k := by simp [FS.setE, hk]
      rw [he]
      exact h.env k
/-- A draw. -/
theorem Rel.drew (h : Rel P G f C a w) : Rel P G f C a w.drew := by
  have keep : ∀ x v, RepA P C f w x v → RepA P C f w.drew x v := RepA.keep (fun b c u hc hF => ⟨hc, hF⟩) (fun b hb => ⟨hb, rfl⟩) (fun t ht => ⟨ht, fun c hc => .inl ⟨hc, rfl⟩⟩) rfl (fun _ h => h)
  exact { h with
    env := fun k => (h.env k).mono keep
    mem := fun b cs hb => by
      obtain ⟨h1, ⟨arr, ty, h2, h3⟩, h4⟩ := h.mem b cs hb
      exact ⟨h1, ⟨arr, ty, h2, h3.mono keep⟩, h4⟩ }
theorem cell_lt {b o : Nat} {u : Value} (h : w.cell? ⟨b, o, none⟩ = some u) : b < w.heap.size := World.block_lt_of_cell? w _ h
theorem cell_alloc {o : Obj} {b c : Nat} {u : Value} (h : w.cell? ⟨b, c, none⟩ = some u) : (w.alloc o).cell? ⟨b, c, none⟩ = some u := by
  rw [World.cell?_alloc_lt _ _ _ (cell_lt h)]; exact h
theorem heap_lt {k : Nat} {x : Obj} (h : w.heap[k]? = some x) : k < w.heap.size := (Array.getElem?_eq_some_iff.1 h).1
theorem heap_alloc {o x : Obj} {k : Nat} (h : w.heap[k]? = some x) : (w.alloc o).heap[k]? = some x := by
  rw [heap_alloc_old w o k (heap_lt h)]; exact h
theorem Plain.alloc (w : World) (o : Obj) : Plain w (w.alloc o) := fun _ ⟨arr, ty, h⟩ => ⟨arr, ty, heap_alloc h⟩
theorem Plain.setRow (w : World) (b : Nat) (arr' : Array Value) {arr : Array Value} {ty : TypeId} (hg : w.heap[b]? = some (.cells arr ty (0, 0))) : Plain w (w.setRow b arr') := fun k ⟨a, t, h⟩ => by
  by_cases hk : k = b
  · subst hk; exact ⟨arr', ty, setRow_heap w _ arr _ ty _ hg⟩
  · exact ⟨a, t, by rw [setRow_other _ _ _ _ hk]; exact h⟩
/-- A new block that is nobody's box: a row that a slice shows. -/
theorem Rel.row (h : Rel P G f C a w) (o : Obj) : Rel P G f C a (w.alloc o) := by
  have keep : ∀ x v, RepA P C f w x v → RepA P C f (w.alloc o) x v := RepA.keep (fun b c u hc hF => ⟨cell_alloc hc, hF⟩) (fun b hb => ⟨hb, rfl⟩) (fun t ht => ⟨ht, fun c hc => .inl ⟨hc, rfl⟩⟩) rfl (Plain.alloc w o)
  exact { h with
    env := fun k => (h.env k).mono keep
    mem := fun b cs hb => by
      obtain ⟨h1, ⟨arr, ty, h2, h3⟩, h4⟩ := h.mem b cs hb
      exact ⟨h1, ⟨arr, ty, heap_alloc h2, h3.mono keep⟩, h4⟩
    tok := fun t v blk hi top hc ht => by
      obtain ⟨⟨arr, ty, h1, h2⟩, h3⟩ := h.tok t v blk hi top hc ht
      exact ⟨⟨arr, ty, heap_alloc h1, h2⟩, h3⟩
    lt := fun b c hF => by have := h.lt b c hF; simp only [World.size_alloc]; omega
    size := by have := h.size; simp only [World.size_alloc]; omega
    block := fun k hk hp => by rw [heap_alloc_old w o k (by have := h.size; omega)]; exact h.block k hk hp }
/-- A new lineage, of a slice without spare places. -/
theorem Rel.lin (h : Rel P G f C a w) (t : Nat) (hu : f.ut t = false) (h0 : t ≠ 0) :
    Rel P G { f with cur := fun k => if k = t then some 0 else f.cur k, ut := fun k => Nat.beq k t || f.ut k } { C with τ := fun k => if k = t then none else C.τ k } a w := by
  have h1 : t ≠ 1 := fun e => by subst e; rw [h.one.2.2] at hu; cases hu
  have keep : ∀ x v, RepA P C f w x v → RepA P { C with τ := fun k => if k = t then none else C.τ k } { f with cur := fun k => if k = t then some 0 else f.cur k, ut := fun k => Nat.beq k t || f.ut k } w x v :=
    RepA.keep (fun b c u hc hF => ⟨hc, hF⟩) (fun b hb => ⟨hb, rfl⟩) (fun k hk => ⟨by simp [hk], fun c hc => by
      have hne : k ≠ t := fun e => by subst e; rw [hk] at hu; cases hu
      simp only [hne, if_false] at hc
      exact .inl ⟨hc, by simp [hne]⟩⟩) rfl (Plain.same w)
  exact { h with
    env := fun k => (h.env k).mono keep
    mem := fun b cs hb => by
      obtain ⟨h1, ⟨arr, ty, h2, h3⟩, h4⟩ := h.mem b cs hb
      exact ⟨h1, ⟨arr, ty, h2, h3.mono keep⟩, h4⟩
    tok := fun k v blk hi top hc ht => by
      by_cases hk : k = t
      · simp [hk] at ht
      · simp only [hk, if_false] at hc ht; exact h.tok k v blk hi top hc ht
    tin := fun k k' v v' blk hi top hi' top' hc hc' ht ht' => by
      by_cases hk : k = t
      · simp [hk] at ht
      · by_cases hk' : k' = t
        · simp [hk'] at ht'
        · simp only [hk, hk', if_false] at hc hc' ht ht'; exact h.tin k k' v v' blk hi top hi' top' hc hc' ht ht'
    cut := fun k v hc => by
      by_cases hk : k = t
      · simp [hk]
      · simp only [hk, if_false] at hc; simp [h.cut k v hc]
    one := ⟨by simp [Ne.symm h1, h.one.1], by simp [Ne.symm h1, h.one.2.1], by simp [h.one.2.2]⟩
    zro := by simp [Ne.symm h0, h.zro] }
/-- A new box. -/
theorem Rel.box (h : Rel P G f C a w) (b : Nat) (hK : b < K0) (hu : f.ub b = false) (arr : Array Value) (ty : TypeId) (cs : List AV) (hr : RepL (RepA P C f w) cs arr.toList) :
    Rel P G { f with mem := fun k => if k = b then some cs else f.mem k, ub := fun k => Nat.beq k b || f.ub k }
      { C with F := fun k o => C.F k o ∨ k = w.heap.size, β := fun k => if k = b then w.heap.size else C.β k } a (w.alloc (.cells arr ty)) := by
  have keep : ∀ x v, RepA P C f w x v → RepA P { C with F := fun k o => C.F k o ∨ k = w.heap.size, β := fun k => if k = b then w.heap.size else C.β k }
      { f with mem := fun k => if k = b then some cs else f.mem k, ub := fun k => Nat.beq k b || f.ub k } (w.alloc (.cells arr ty)) x v :=
    RepA.keep (fun k c u hc hF => ⟨cell_alloc hc, fun hh => hh.elim hF (fun e => by have := cell_lt hc; omega)⟩)
      (fun k hk => ⟨by simp [hk], by have hne : k ≠ b := fun e => (by subst e; rw [hk] at hu; cases hu); simp [hne]⟩) (fun t ht => ⟨ht, fun c hc => .inl ⟨hc, rfl⟩⟩) (if_neg (Ne.symm (Nat.ne_of_lt hK))) (Plain.alloc w _)
  have bne : ∀ k cs', f.mem k = some cs' → k ≠ b := fun k cs' hk e => by subst e; rw [(h.mem k cs' hk).1] at hu; cases hu
  have βlt : ∀ k cs', f.mem k = some cs' → C.β k < w.heap.size := fun k cs' hk => by obtain ⟨_, ⟨arr', ty', h2, _⟩, _⟩ := h.mem k cs' hk; exact heap_lt h2
  exact { h with
    bas := (if_neg (Ne.symm (Nat.ne_of_lt hK))).trans h.bas
    ubK := by
      have h1 : Nat.beq K0 b = false := by cases hq : Nat.beq K0 b with | false => rfl | true => exact absurd (Nat.eq_of_beq_eq_true hq) (Ne.symm (Nat.ne_of_lt hK))
      show (Nat.beq K0 b || f.ub K0) = false
      rw [h1, h.ubK]; rfl
    env := fun k => (h.env k).mono keep
    mem := fun k cs' hb => by
      by_cases hk : k = b
      · subst hk
        simp only [if_true] at hb ⊢
        obtain rfl := Option.some.inj hb
        exact ⟨by simp, ⟨arr, ty, heap_alloc_new w _, hr.mono keep⟩, .inl h.size, fun o => .inr trivial⟩
      · simp only [hk, if_false] at hb ⊢
        obtain ⟨h1, ⟨arr', ty', h2, h3⟩, h4, h5⟩ := h.mem k cs' hb
        exact ⟨by simp [h1], ⟨arr', ty', heap_alloc h2, h3.mono keep⟩, h4, fun o => .inl (h5 o)⟩
    inj := fun k k' cs1 cs2 hk hk' he => by
      by_cases e1 : k = b <;> by_cases e2 : k' = b
      · rw [e1, e2]
      · simp only [e1, e2, if_true, if_false] at hk hk' he
        have := βlt k' cs2 hk'; omega
      · simp only [e1, e2, if_true, if_false] at hk hk' he
        have := βlt k cs1 hk; omega
      · simp only [e1, e2, if_false] at hk hk' he
        exact h.inj k k' cs1 cs2 hk hk' he
    tok := fun t v blk hi top hc ht => by
      obtain ⟨⟨arr', ty', h1, h2⟩, h3, h4, h5⟩ := h.tok t v blk hi top hc ht
      refine ⟨⟨arr', ty', heap_alloc h1, h2⟩, h3, fun o ho => .inl (h4 o ho), fun k cs' hk => ?_⟩
      by_cases e1 : k = b
      · simp only [e1, if_true]; have := heap_lt h1; omega
      · simp only [e1, if_false] at hk ⊢; exact h5 k cs' hk
    F0 := fun k o hF => .inl (h.F0 k o hF)
    pk := fun k hk => by
      obtain ⟨h1, h2⟩ := h.pk k hk
      have hne : k ≠ b := fun e => by subst e; rw [h2] at hu; cases hu
      exact ⟨by simp [hne, h1], by simp [h2]⟩
    new := fun k o hF => by
      rcases hF with hF | rfl
      · exact h.new k o hF
      · exact .inr (.inl h.size)
    lt := fun k o hF => by
      simp only [World.size_alloc]
      rcases hF with hF | rfl
      · have := h.lt k o hF; omega
      · omega
    size := by have := h.size; simp only [World.size_alloc]; omega
    block := fun k hk hp => by rw [heap_alloc_old w _ k (by have := h.size; omega)]; exact h.block k hk hp }
/-- A store into a box. -/
theorem Rel.store (h : Rel P G f C a w) (b : Nat) (cs cs' : List AV) (hm : f.mem b = some cs) (arr' : Array Value)
    (hr : RepL (RepA P C f w) cs' arr'.toList) :
    Rel P G { f with mem := fun k => if k = b then some cs' else f.mem k } C a (w.setRow (C.β b) arr') := by
  obtain ⟨hu, ⟨arr, ty, hg, hl⟩, hw, hF⟩ := h.mem b cs hm
  have keep : ∀ x v, RepA P C f w x v → RepA P C { f with mem := fun k => if k = b then some cs' else f.mem k } (w.setRow (C.β b) arr') x v :=
    RepA.keep (fun k c u hc hn => ⟨by rw [cell_setRow_other _ _ _ _ (fun e => hn (by simp only at e; rw [e]; exact hF c))]; exact hc, hn⟩) (fun k hk => ⟨hk, rfl⟩) (fun t ht => ⟨ht, fun c hc => .inl ⟨hc, rfl⟩⟩) rfl (Plain.setRow w _ _ hg)
  exact { h with
    env := fun k => (h.env k).mono keep
    mem := fun k cs2 hb => by
      by_cases hk : k = b
      · subst hk
        simp only [if_true] at hb
        obtain rfl := Option.some.inj hb
        exact ⟨hu, ⟨arr', ty, setRow_heap w _ arr _ ty _ hg, hr.mono keep⟩, hw, hF⟩
      · simp only [hk, if_false] at hb
        obtain ⟨h1, ⟨arr2, ty2, h2, h3⟩, h4, h5⟩ := h.mem k cs2 hb
        exact ⟨h1, ⟨arr2, ty2, by rw [setRow_other _ _ _ _ (fun e => hk (h.inj k b cs2 cs hb hm e))]; exact h2, h3.mono keep⟩, h4, h5⟩
    inj := fun k k' cs1 cs2 hk hk' he => by
      have ex : ∀ j c, (if j = b then some cs' else f.mem j) = some c → ∃ c', f.mem j = some c' := fun j c hj => by
        by_cases e : j = b
        · exact ⟨cs, by rw [e]; exact hm⟩
        · simp only [e, if_false] at hj; exact ⟨c, hj⟩
      obtain ⟨c1, h1⟩ := ex k cs1 hk
      obtain ⟨c2, h2⟩ := ex k' cs2 hk'
      exact h.inj k k' c1 c2 h1 h2 he
    tok := fun t v blk hi top hc ht => by
      obtain ⟨⟨arr2, ty2, h1, h2⟩, h3, h4, h5⟩ := h.tok t v blk hi top hc ht
      refine ⟨⟨arr2, ty2, by rw [setRow_other _ _ _ _ (fun e => h5 b cs hm e.symm)]; exact h1, h2⟩, h3, h4, fun k cs2 hk => ?_⟩
      by_cases e : k = b
      · rw [e]; exact h5 b cs hm
      · simp only [e, if_false] at hk; exact h5 k cs2 hk
    lt := fun k o hFF => by simpa using h.lt k o hFF
    os := h.os, tape := h.tape, out := h.out
    size := by simpa using h.size
    block := fun k hk hp => by
      have hne : k ≠ C.β b := fun e => hw.elim (fun hw => by omega) (fun hw => hp (e ▸ hw))
      rw [setRow_other _ _ _ _ hne]; exact h.block k hk hp }
end
end Go.Proofs.Ytpeejmolbmhjjaa.Sx
