/- A reading of the program's code over plain values (numbers, lists, structs as rows of cells), and the proof that the code comes to what the reading says; there is no condition beyond those each statement names. -/
import Derived.Laws.AppendOwn
import Derived.Laws.MakeOwn
import Derived.Laws.Rows
import Derived.Laws.CopyOwn
import Derived.Orders
import Derived.KernelRfl
namespace Go.Proofs.Ytpeejmolbmhjjaa.Sx
set_option linter.unusedSimpArgs false
set_option linter.unusedVariables false
open Go

/-- A cell's worth of a value. 'lst t v e es': a slice of elements of type e (each a row of cells); t is the lineage of its array (0: none is known; 1: no spare places), v the version. -/
inductive AV where
  | nul
  | b (x : Bool)
  | i (k : IntKind) (n : Int)
  | s (x : ByteArray)
  | lst (t v : Nat) (e : TypeId) (es : List (List AV))
  | ptr (bx off : Nat)
  | eptr (cs : List AV)
  | row (bx n : Nat) (e : TypeId)
  | nilp
  | fn (g : FuncId)
  | nl (e : TypeId) (es : List (List AV))

/-- Where the reading keeps how many blocks there were when the function was called. -/
abbrev K0 : Nat := 1000000000
/-- An element's cell of a row that is new, all it leads to with it. -/
def AV.nu : AV → AV
  | .lst _ _ e es => .nl e es
  | x => x
def AV.clean : AV → Bool
  | .lst t _ _ _ => Nat.beq t 0
  | .ptr _ _ | .eptr _ | .nul | .row _ _ _ | .nl _ _ => false
  | _ => true
/-- What a callee sees of it: no lineage. -/
def AV.strip : AV → AV
  | .lst _ _ e es => .lst 0 0 e es
  | .nl e es => .lst 0 0 e es
  | x => x
/-- A plain value: is it a struct, and its cells. -/
abbrev PV := Bool × List AV
inductive TV where
  | pv (x : PV)
  | tup (xs : List PV)
  | no
abbrev TV.one (a : AV) : TV := .pv (false, [a])
abbrev TV.agg (cs : List AV) : TV := .pv (true, cs)

/-- 'v' in world 'w' reads as 'a'; what it reads lies outside F. -/
inductive Rep (P : Program) (F : Nat → Nat → Prop) (β : Nat → Nat) (U : Nat → Bool) (w : World) : AV → Value → Prop
  | nul (v : Value) : v.oneCell' = true → Rep P F β U w .nul v
  | b (x : Bool) : Rep P F β U w (.b x) (.bool x)
  | i (k : IntKind) (n : Int) : Rep P F β U w (.i k n) (.int k n)
  | s (x : ByteArray) : Rep P F β U w (.s x) (.string x)
  | nilp : Rep P F β U w .nilp (.pointer none)
  | fn (g : FuncId) : Rep P F β U w (.fn g) (.func (.func g) #[] #[])
  | ptr (bx off : Nat) : U bx = true → Rep P F β U w (.ptr bx off) (.pointer (some ⟨β bx, off, none⟩))
  | row (bx n : Nat) (e : TypeId) : U bx = true → Rep P F β U w (.row bx n e) (.slice (some ⟨β bx, 0, none⟩) n n)
  | eptr (cs : List AV) (blk off : Nat) (vals : Nat → Value) :
      (∀ (c : Nat) (x : AV), cs[c]? = some x → x.clean = true ∧ w.cell? ⟨blk, off + c, none⟩ = some (vals c) ∧ ¬ F blk (off + c)) →
      (∀ (c : Nat) (x : AV), cs[c]? = some x → Rep P F β U w x (vals c)) → Rep P F β U w (.eptr cs) (.pointer (some ⟨blk, off, none⟩))
  | nil (t v : Nat) (e : TypeId) : Rep P F β U w (.lst t v e []) (.slice none 0 0)
  | emp (t v : Nat) (e : TypeId) (a : Addr) (cap : Nat) : Rep P F β U w (.lst t v e []) (.slice (some a) 0 cap)
  | lst (t v : Nat) (e : TypeId) (es : List (List AV)) (blk off cap : Nat) (vals : Nat → Nat → Value) : es.length ≤ cap →
      (∀ xs ∈ es, xs.length = P.cellsOf e) →
      (∀ (j c : Nat) (xs : List AV) (x : AV), es[j]? = some xs → xs[c]? = some x →
        x.clean = true ∧ w.cell? ⟨blk, off + (j * P.cellsOf e + c), none⟩ = some (vals j c) ∧ ¬ F blk (off + (j * P.cellsOf e + c))) →
      (∀ (j c : Nat) (xs : List AV) (x : AV), es[j]? = some xs → xs[c]? = some x → Rep P F β U w x (vals j c)) →
      Rep P F β U w (.lst t v e es) (.slice (some ⟨blk, off, none⟩) es.length cap)
  | nln (e : TypeId) : Rep P F β U w (.nl e []) (.slice none 0 0)
  | nl (e : TypeId) (es : List (List AV)) (blk cap : Nat) (vals : Nat → Nat → Value) : es.length ≤ cap →
      (∀ xs ∈ es, xs.length = P.cellsOf e) →
      (∀ (j c : Nat) (xs : List AV) (x : AV), es[j]? = some xs → xs[c]? = some x →
        x.clean = true ∧ w.cell? ⟨blk, 0 + (j * P.cellsOf e + c), none⟩ = some (vals j c) ∧ ¬ F blk (0 + (j * P.cellsOf e + c))) →
      ((∃ arr ty, w.heap[blk]? = some (.cells arr ty (0, 0))) ∧ β K0 ≤ blk ∧
        ∀ (j c : Nat) (xs : List AV) (x : AV), es[j]? = some xs → xs[c]? = some x → ∀ (a : Addr) (n m : Nat), vals j c = .slice (some a) n m → 0 < n → a.block ≠ blk) →
      (∀ (j c : Nat) (xs : List AV) (x : AV), es[j]? = some xs → xs[c]? = some x → Rep P F β U w x.nu (vals j c)) →
      Rep P F β U w (.nl e es) (.slice (some ⟨blk, 0, none⟩) es.length cap)

section
variable {P : Program} {F F' : Nat → Nat → Prop} {β β' : Nat → Nat} {U U' : Nat → Bool} {w w' : World}
/-- A row's block stays one. -/
def Plain (w w' : World) : Prop := ∀ b : Nat, (∃ arr ty, w.heap[b]? = some (.cells arr ty (0, 0))) → ∃ arr ty, w'.heap[b]? = some (.cells arr ty (0, 0))
theorem Plain.same (w : World) : Plain w w := fun _ h => h
theorem Rep.keep (hc : ∀ b o u, w.cell? ⟨b, o, none⟩ = some u → ¬ F b o → w'.cell? ⟨b, o, none⟩ = some u ∧ ¬ F' b o)
    (hb : ∀ b, U b = true → U' b = true ∧ β' b = β b) (hβ : β' K0 = β K0) (hz : Plain w w') {a : AV} {v : Value} (h : Rep P F β U w a v) : Rep P F' β' U' w' a v := by
  induction h with
  | nul v h => exact .nul v h
  | b x => exact .b x
  | i k n => exact .i k n
  | s x => exact .s x
  | nilp => exact .nilp
  | fn g => exact .fn g
  | ptr bx off h => rw [← (hb bx h).2]; exact .ptr bx off (hb bx h).1
  | row bx n e h => rw [← (hb bx h).2]; exact .row bx n e (hb bx h).1
  | eptr cs blk off vals h1 h2 ih =>
    exact .eptr cs blk off vals (fun c x hx => ⟨(h1 c x hx).1, hc _ _ _ (h1 c x hx).2.1 (h1 c x hx).2.2⟩) ih
  | nil t v e => exact .nil t v e
  | emp t v e a cap => exact .emp t v e a cap
  | lst t v e es blk off cap vals hcap hlen h1 h2 ih =>
    exact .lst t v e es blk off cap vals hcap hlen (fun j c xs x hx hy => ⟨(h1 j c xs x hx hy).1, hc _ _ _ (h1 j c xs x hx hy).2.1 (h1 j c xs x hx hy).2.2⟩) ih
  | nln e => exact .nln e
  | nl e es blk cap vals hcap hlen h1 h2 h3 ih =>
    exact .nl e es blk cap vals hcap hlen (fun j c xs x hx hy => ⟨(h1 j c xs x hx hy).1, hc _ _ _ (h1 j c xs x hx hy).2.1 (h1 j c xs x hx hy).2.2⟩) ⟨hz _ h2.1, by rw [hβ]; exact h2.2.1, h2.2.2⟩ ih
theorem Rep.oneCell {a : AV} {v : Value} (h : Rep P F β U w a v) : v.oneCell' = true := by
  cases h <;> first | rfl | assumption
theorem Rep.unnl {a : AV} {v : Value} (h : Rep P F β U w a v) : ∀ x : AV, x.nu = a → x.clean = true → Rep P F β U w x v := by
  induction h with
  | nln e =>
    intro x hx hc
    cases x <;> simp only [AV.nu, AV.nl.injEq, reduceCtorEq] at hx <;> first | (obtain ⟨rfl, rfl⟩ := hx; exact .nil ..) | (cases hc)
  | nl e es blk cap vals hcap hlen h1 h2 h3 ih =>
    intro x hx hc
    cases x <;> simp only [AV.nu, AV.nl.injEq, reduceCtorEq] at hx
    · obtain ⟨rfl, rfl⟩ := hx
      exact .lst _ _ _ _ blk 0 cap vals hcap hlen h1 (fun j c xs x hx hy => ih j c xs x hx hy x rfl (h1 j c xs x hx hy).1)
    · cases hc
  | nul v h => intro x hx hc; cases x <;> simp only [AV.nu, reduceCtorEq] at hx; exact .nul v h
  | b x => intro y hy hc; cases y <;> simp only [AV.nu, reduceCtorEq, AV.b.injEq] at hy; subst hy; exact .b _
  | i k n => intro y hy hc; cases y <;> simp only [AV.nu, reduceCtorEq, AV.i.injEq] at hy; obtain ⟨rfl, rfl⟩ := hy; exact .i _ _
  | s x => intro y hy hc; cases y <;> simp only [AV.nu, reduceCtorEq, AV.s.injEq] at hy; subst hy; exact .s _
  | nilp => intro y hy hc; cases y <;> simp only [AV.nu, reduceCtorEq] at hy; exact .nilp
  | fn g => intro y hy hc; cases y <;> simp only [AV.nu, reduceCtorEq, AV.fn.injEq] at hy; subst hy; exact .fn _
  | ptr bx off h => intro y hy hc; cases y <;> simp only [AV.nu, reduceCtorEq] at hy; cases hc
  | row bx n e h => intro y hy hc; cases y <;> simp only [AV.nu, reduceCtorEq] at hy; cases hc
  | eptr cs blk off vals h1 h2 ih => intro y hy hc; cases y <;> simp only [AV.nu, reduceCtorEq] at hy; cases hc
  | nil t v e => intro y hy hc; cases y <;> simp only [AV.nu, reduceCtorEq] at hy
  | emp t v e a cap => intro y hy hc; cases y <;> simp only [AV.nu, reduceCtorEq] at hy
  | lst t v e es blk off cap vals hcap hlen h1 h2 ih => intro y hy hc; cases y <;> simp only [AV.nu, reduceCtorEq] at hy
/-- The lineage is no part of what is read. -/
theorem Rep.relst {t v t' v' : Nat} {e : TypeId} {es : List (List AV)} {u : Value} (h : Rep P F β U w (.lst t v e es) u) : Rep P F β U w (.lst t' v' e es) u := by
  cases h with
  | nil => exact .nil ..
  | emp _ _ _ a cap => exact .emp t' v' e a cap
  | lst _ _ _ _ blk off cap vals h1 h2 h3 h4 => exact .lst t' v' e es blk off cap vals h1 h2 h3 h4
theorem Rep.strip {a : AV} {u : Value} (h : Rep P F β U w a u) : Rep P F β U w a.strip u := by
  cases a with
  | lst t v e es => exact h.relst
  | nl e es => exact h.unnl (.lst 0 0 e es) rfl rfl
  | _ => exact h
end

/-- The state, as functions. -/
structure FS where
  env : Nat → TV
  mem : Nat → Option (List AV)
  cur : Nat → Option Nat
  ub : Nat → Bool
  ut : Nat → Bool
structure Cx where
  F : Nat → Nat → Prop
  β : Nat → Nat
  τ : Nat → Option (Nat × Nat × Nat)

/-- What is known of a slice's spare places. -/
def Tip (P : Program) (τ : Nat → Option (Nat × Nat × Nat)) (cur : Nat → Option Nat) (V : Nat → Bool) : AV → Value → Prop
  | .lst t v e es, .slice a _ cap => t = 0 ∨ (V t = true ∧ ∀ c, cur t = some c → v ≤ c ∧ (v = c → cap = es.length ∨
      ∃ blk off hi top, τ t = some (blk, hi, top) ∧ a = some ⟨blk, off, none⟩ ∧ off + es.length * P.cellsOf e = hi ∧ off + cap * P.cellsOf e ≤ top))
  | _, _ => True
def RepA (P : Program) (C : Cx) (f : FS) (w : World) (a : AV) (v : Value) : Prop := Rep P C.F C.β f.ub w a v ∧ Tip P C.τ f.cur f.ut a v
def RepL (R : AV → Value → Prop) (cs : List AV) (vs : List Value) : Prop := cs.length = vs.length ∧ ∀ (j : Nat) (x : AV) (u : Value), cs[j]? = some x → vs[j]? = some u → R x u
def RepP (R : AV → Value → Prop) (x : PV) (u : Value) : Prop := RepL R x.2 u.cells.toList ∧ (x.1 = true → ∃ arr, u = .agg arr) ∧ (x.1 = false → u.oneCell' = true)
def RepT (R : AV → Value → Prop) : TV → Value → Prop
  | .pv x, v => RepP R x v
  | .tup xs, v => ∃ arr : Array Value, v = .tuple arr ∧ xs.length = arr.size ∧ ∀ (j : Nat) (x : PV) (u : Value), xs[j]? = some x → arr[j]? = some u → RepP R x u
  | .no, _ => True
theorem RepL.mono {R R' : AV → Value → Prop} (h : ∀ a v, R a v → R' a v) {cs : List AV} {vs : List Value} (hl : RepL R cs vs) : RepL R' cs vs :=
  ⟨hl.1, fun j x u hx hu => h _ _ (hl.2 j x u hx hu)⟩
theorem RepP.mono {R R' : AV → Value → Prop} (h : ∀ a v, R a v → R' a v) {x : PV} {u : Value} (hl : RepP R x u) : RepP R' x u := ⟨hl.1.mono h, hl.2⟩
theorem RepT.mono {R R' : AV → Value → Prop} (h : ∀ a v, R a v → R' a v) {x : TV} {u : Value} (hl : RepT R x u) : RepT R' x u := by
  cases x with
  | pv x => exact RepP.mono h hl
  | tup xs => obtain ⟨arr, h1, h2, h3⟩ := hl; exact ⟨arr, h1, h2, fun j x u hx hu => (h3 j x u hx hu).mono h⟩
  | no => trivial
theorem RepL.nil {R : AV → Value → Prop} : RepL R [] [] := ⟨rfl, fun j x u hx => by simp at hx⟩
theorem RepL.cons {R : AV → Value → Prop} {x : AV} {u : Value} {cs : List AV} {vs : List Value} (h : R x u) (hl : RepL R cs vs) : RepL R (x :: cs) (u :: vs) :=
  ⟨by simp [hl.1], fun j y v hy hv => by
    cases j with
    | zero => simp at hy hv; subst hy; subst hv; exact h
    | succ j => exact hl.2 j y v (by simpa using hy) (by simpa using hv)⟩
theorem RepL.cons_inv {R : AV → Value → Prop} {x : AV} {cs : List AV} {vs : List Value} (hl : RepL R (x :: cs) vs) : ∃ u us, vs = u :: us ∧ R x u ∧ RepL R cs us := by
  cases vs with
  | nil => have := hl.1; simp at this
  | cons u us =>
    exact ⟨u, us, rfl, hl.2 0 x u rfl rfl, by have := hl.1; simpa using this, fun j y v hy hv => hl.2 (j + 1) y v (by simpa using hy) (by simpa using hv)⟩
theorem RepL.get {R : AV → Value → Prop} {cs : List AV} {vs : List Value} (hl : RepL R cs vs) {j : Nat} {x : AV} (hx : cs[j]? = some x) : ∃ u, vs[j]? = some u ∧ R x u := by
  have hj : j < vs.length := by rw [← hl.1]; exact (List.getElem?_eq_some_iff.1 hx).1
  exact ⟨vs[j], List.getElem?_eq_getElem hj, hl.2 j x _ hx (List.getElem?_eq_getElem hj)⟩
theorem RepL.drop {R : AV → Value → Prop} {cs : List AV} {vs : List Value} (hl : RepL R cs vs) (n : Nat) : RepL R (cs.drop n) (vs.drop n) :=
  ⟨by simp [hl.1], fun j x u hx hu => hl.2 (n + j) x u (by simpa [List.getElem?_drop] using hx) (by simpa [List.getElem?_drop] using hu)⟩
theorem RepL.take {R : AV → Value → Prop} {cs : List AV} {vs : List Value} (hl : RepL R cs vs) (n : Nat) : RepL R (cs.take n) (vs.take n) :=
  ⟨by simp [hl.1], fun j x u hx hu => by
    rw [List.getElem?_take] at hx hu
    split at hx
    · rename_i h; rw [if_pos h] at hu; exact hl.2 j x u hx hu
    · cases hx⟩
theorem RepL.append {R : AV → Value → Prop} {cs ds : List AV} {vs us : List Value} (hl : RepL R cs vs) (hr : RepL R ds us) : RepL R (cs ++ ds) (vs ++ us) :=
  ⟨by simp [hl.1, hr.1], fun j x u hx hu => by
    rw [List.getElem?_append] at hx hu
    by_cases h : j < cs.length
    · rw [if_pos h] at hx; rw [if_pos (by rw [← hl.1]; exact h)] at hu; exact hl.2 j x u hx hu
    · rw [if_neg h] at hx; rw [if_neg (by rw [← hl.1]; exact h), ← hl.1] at hu; exact hr.2 _ x u hx hu⟩
theorem RepL.split {R : AV → Value → Prop} {cs ds : List AV} {vs : List Value} (hl : RepL R (cs ++ ds) vs) : RepL R cs (vs.take cs.length) ∧ RepL R ds (vs.drop cs.length) := by
  have h1 := hl.take cs.length
  have h2 := hl.drop cs.length
  rw [List.take_left] at h1
  rw [List.drop_left] at h2
  exact ⟨h1, h2⟩
theorem cells_one {v : Value} (h : v.oneCell' = true) : v.cells = #[v] := by cases v <;> first | rfl | simp [Value.oneCell'] at h
theorem RepP.one {R : AV → Value → Prop} {a : AV} {v : Value} (h1 : v.oneCell' = true) (h : R a v) : RepP R (false, [a]) v := by
  refine ⟨?_, fun h => (by cases h), fun _ => h1⟩
  rw [cells_one h1]
  exact .cons h .nil
theorem RepP.one_inv {R : AV → Value → Prop} {a : AV} {v : Value} (h : RepP R (false, [a]) v) : v.oneCell' = true ∧ R a v := by
  have h1 := h.2.2 rfl
  have h2 := h.1
  rw [cells_one h1] at h2
  exact ⟨h1, h2.2 0 a v rfl rfl⟩
theorem RepP.agg {R : AV → Value → Prop} {cs : List AV} {arr : Array Value} (h : RepL R cs arr.toList) : RepP R (true, cs) (.agg arr) := ⟨h, fun _ => ⟨arr, rfl⟩, fun h => (by cases h)⟩
theorem RepP.agg_inv {R : AV → Value → Prop} {cs : List AV} {v : Value} (h : RepP R (true, cs) v) : ∃ arr, v = .agg arr ∧ RepL R cs arr.toList := by
  obtain ⟨arr, rfl⟩ := h.2.1 rfl
  exact ⟨arr, rfl, h.1⟩

/-- What does not turn while a function runs: how many slots, the world at its call, the blocks of the boxes that were handed in, what the caller may write. -/
structure Gd where
  n : Nat
  w0 : World
  pb : Nat → Prop
  F0 : Nat → Nat → Prop
  pk : Nat → Prop
  pβ : Nat → Nat
structure Rel (P : Program) (G : Gd) (f : FS) (C : Cx) (a : Act) (w : World) : Prop where
  nle : G.n ≤ K0
  bas : C.β K0 = G.w0.heap.size
  ubK : f.ub K0 = false
  sz : a.tmps.size = G.n
  df : a.defers = []
  env : ∀ k, RepT (RepA P C f w) (f.env k) (a.tmps.getD k undef)
  mem : ∀ b cs, f.mem b = some cs → f.ub b = true ∧ (∃ arr ty, w.heap[C.β b]? = some (.cells arr ty (0, 0)) ∧ RepL (RepA P C f w) cs arr.toList) ∧
    (G.w0.heap.size ≤ C.β b ∨ G.pb (C.β b)) ∧ ∀ o, C.F (C.β b) o
  inj : ∀ b b' cs cs', f.mem b = some cs → f.mem b' = some cs' → C.β b = C.β b' → b = b'
  tok : ∀ t v blk hi top, f.cur t = some v → C.τ t = some (blk, hi, top) → (∃ arr ty, w.heap[blk]? = some (.cells arr ty (0, 0)) ∧ arr.size = top) ∧
    G.w0.heap.size ≤ blk ∧ (∀ o, hi ≤ o → C.F blk o) ∧ (∀ b cs, f.mem b = some cs → C.β b ≠ blk)
  tin : ∀ t t' v v' blk hi top hi' top', f.cur t = some v → f.cur t' = some v' → C.τ t = some (blk, hi, top) → C.τ t' = some (blk, hi', top') → t = t'
  cut : ∀ t v, f.cur t = some v → f.ut t = true
  one : f.cur 1 = some 0 ∧ C.τ 1 = none ∧ f.ut 1 = true
  zro : f.cur 0 = none
  F0 : ∀ b o, G.F0 b o → C.F b o
  glt : ∀ b o, G.F0 b o → b < G.w0.heap.size
  new : ∀ b o, C.F b o → G.F0 b o ∨ G.w0.heap.size ≤ b ∨ G.pb b
  lt : ∀ b o, C.F b o → b < w.heap.size
  pk : ∀ k, G.pk k → C.β k = G.pβ k ∧ f.ub k = true
  os : w.os = G.w0.os
  tape : w.tape = G.w0.tape
  out : w.output = G.w0.output
  size : G.w0.heap.size ≤ w.heap.size
  block : ∀ k, k < G.w0.heap.size → ¬ G.pb k → w.heap[k]? = G.w0.heap[k]?
end Go.Proofs.Ytpeejmolbmhjjaa.Sx
