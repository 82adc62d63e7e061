/- What a call and an operation come to over plain values: the reading itself. -/
import Derived.Test.YtpeejmolbmhjjaaNSy3
namespace Go.Proofs.Ytpeejmolbmhjjaa.Sx
set_option linter.unusedSimpArgs false
set_option linter.unusedVariables false
open Go
/-- What a call leaves: the lineages that it hands out, the boxes that were handed in, a new box, the result. -/
structure Out where
  tk : List (Nat × Nat) := []
  mem : List (List AV) := []
  nb : Option (List AV) := none
  res : TV
structure Ret (P : Program) (F : Nat → Nat → Prop) (β : Nat → Nat) (U : Nat → Bool) (w : World) (mem : List (Nat × List AV)) (o : Out) (F' : Nat → Nat → Prop) (bn : Nat)
    (τ : Nat → Option (Nat × Nat × Nat)) (v : Value) (w' : World) : Prop where
  os : w'.os = w.os
  tape : w'.tape = w.tape
  out : w'.output = w.output
  size : w.heap.size ≤ w'.heap.size
  pln : Plain w w'
  block : ∀ k, k < w.heap.size → (∀ p ∈ mem, k ≠ β p.1) → w'.heap[k]? = w.heap[k]?
  len : o.mem.length = mem.length
  mem : ∀ (j : Nat) (p : Nat × List AV) (cs : List AV), mem[j]? = some p → o.mem[j]? = some cs → (∀ x ∈ cs, x.clean = true) ∧
    ∃ arr ty, w'.heap[β p.1]? = some (.cells arr ty (0, 0)) ∧ RepL (Rep P F' β U w') cs arr.toList
  F1 : ∀ b c, F b c → F' b c
  F2 : ∀ b c, F' b c → F b c ∨ w.heap.size ≤ b
  F3 : ∀ b c, F' b c → b < w'.heap.size
  new : ∀ cs, o.nb = some cs → (∀ x ∈ cs, x.clean = true) ∧ w.heap.size ≤ bn ∧ (∀ c, F' bn c) ∧
    ∃ arr ty, w'.heap[bn]? = some (.cells arr ty (0, 0)) ∧ RepL (Rep P F' β U w') cs arr.toList
  tk : ∀ t v, lk o.tk t = some v → 2 ≤ t ∧ t < 9
  tok : ∀ t v blk hi top, lk o.tk t = some v → τ t = some (blk, hi, top) → (∃ arr ty, w'.heap[blk]? = some (.cells arr ty (0, 0)) ∧ arr.size = top) ∧ w.heap.size ≤ blk ∧ (∀ c, hi ≤ c → F' blk c) ∧
    (o.nb.isSome = true → bn ≠ blk)
  tin : ∀ t t' v v' blk hi top hi' top', lk o.tk t = some v → lk o.tk t' = some v' → τ t = some (blk, hi, top) → τ t' = some (blk, hi', top') → t = t'
  res : RepT (fun a u => Rep P F' (fun k => if o.nb.isSome = true ∧ k = 0 then bn else if k = K0 then w.heap.size else β k) (fun k => (o.nb.isSome && Nat.beq k 0) || U k) w' a u ∧ Tip P τ (lk o.tk) (fun t => (lk o.tk t).isSome) a u) o.res v
/-- A call of it enters its body. -/
def Goes (P : Program) (f : FuncId) : Prop := ∀ (args : Array Value) (w : World), (callFunc f args).run P w = .ok (.enter f args) w
/-- The contract of a function: called with these boxes and these arguments it returns, and what it leaves meets R. -/
def FnM (P : Program) (f : FuncId) (mem : List (Nat × List AV)) (args : List PV) (R : Out → Prop) : Prop :=
  Goes P f ∧ ∀ (F : Nat → Nat → Prop) (β : Nat → Nat) (U : Nat → Bool) (w : World) (vals : Array Value),
    (∀ b c, F b c → b < w.heap.size) → (U 0 = false ∧ U K0 = false) →
    (∀ p ∈ mem, U p.1 = true ∧ (∃ arr ty, w.heap[β p.1]? = some (.cells arr ty (0, 0)) ∧ RepL (Rep P F β U w) p.2 arr.toList) ∧ ∀ c, F (β p.1) c) →
    (∀ p ∈ mem, ∀ q ∈ mem, β p.1 = β q.1 → p.1 = q.1) →
    args.length = vals.size → (∀ (j : Nat) (x : PV) (u : Value), args[j]? = some x → vals[j]? = some u → RepP (Rep P F β U w) x u) →
    Calls P f vals w fun e w' => ∃ (v : Value) (o : Out) (F' : Nat → Nat → Prop) (bn : Nat) (τ : Nat → Option (Nat × Nat × Nat)), e = .returned v ∧ R o ∧ Ret P F β U w mem o F' bn τ v w'
theorem FnM.weak {P : Program} {f : FuncId} {mem : List (Nat × List AV)} {args : List PV} {R R' : Out → Prop} (h : FnM P f mem args R) (hr : ∀ o, R o → R' o) : FnM P f mem args R' :=
  ⟨h.1, fun F β U w vals h1 h2 h3 h4 h5 h6 => (h.2 F β U w vals h1 h2 h3 h4 h5 h6).mono fun _ _ ⟨v, o, F', bn, τ, he, hR, hret⟩ => ⟨v, o, F', bn, τ, he, hr o hR, hret⟩⟩
theorem FnM.both {P : Program} {f : FuncId} {mem : List (Nat × List AV)} {args : List PV} {R : Out → Prop} {p : Prop} (h : p → FnM P f mem args R) (hp : p) : FnM P f mem args R := h hp

def shiftA (d B : Nat) : AV → AV
  | .lst t v e es => .lst (bif Nat.ble t 1 then t else B + t) v e es
  | .ptr b off => .ptr (bif Nat.beq b 0 then d else b) off
  | .row _ _ _ => .nul
  | x => x
def shiftT (d B : Nat) : TV → TV
  | .pv x => .pv (x.1, x.2.map (shiftA d B))
  | .tup xs => .tup (xs.map fun x => (x.1, x.2.map (shiftA d B)))
  | .no => .no
def evArgs (env : Nat → TV) (T : TT) : List (Operand × TypeId) → (List PV → Prop) → Prop
  | [], K => K []
  | (x, t) :: r, K => match evo env (ti T t).el x with
    | .pv p => evArgs env T r fun l => K ((p.1, stripV p.2) :: l)
    | _ => False
def memIs (mem : Nat → Option (List AV)) (ok : Nat → Bool) : List (Nat × List AV) → Prop
  | [] => True
  | (k, cs) :: r => (match mem k with | some cs' => ok k = true ∧ stripV cs' = cs | none => False) ∧ memIs mem ok r
def keysDistinct : List (Nat × List AV) → Bool
  | [] => true
  | (k, _) :: r => (r.all fun p => !Nat.beq k p.1) && keysDistinct r
def outDl (d B : Nat) (mem : List (Nat × List AV)) (o : Out) : Dl where
  v := shiftT d B o.res
  mm := (match o.nb with | some cs => [(d, cs)] | none => []) ++ (mem.zip o.mem).map fun x => (x.1.1, x.2)
  nb := match o.nb with | some _ => [d] | none => []
  cu := o.tk.map fun x => (B + x.1, x.2)
def linFree (ut : Nat → Bool) (B : Nat) : Nat → Bool
  | 0 => true
  | n + 1 => !ut (B + (n + 2)) && linFree ut B n
theorem linFree_ok {ut : Nat → Bool} {B : Nat} : ∀ {n : Nat}, linFree ut B n = true → ∀ t, 2 ≤ t → t < n + 2 → ut (B + t) = false
  | 0, _, t, h1, h2 => by omega
  | n + 1, h, t, h1, h2 => by
    simp only [linFree, Bool.and_eq_true, Bool.not_eq_true'] at h
    by_cases ht : t = n + 2
    · rw [ht]; exact h.1
    · exact linFree_ok h.2 t h1 (by omega)
/-- Where a call's lineages are named: in the first free half of its names. -/
def evBank (ut : Nat → Bool) (d : Nat) (X : Nat → Prop) : Prop := bif linFree ut (16 * d) 7 then X (16 * d) else bif linFree ut (16 * d + 7) 7 then X (16 * d + 7) else False
theorem evBank_inv {ut : Nat → Bool} {d : Nat} {X : Nat → Prop} (h : evBank ut d X) : ∃ B, (16 * d ≤ B ∧ B ≤ 16 * d + 7) ∧ linFree ut B 7 = true ∧ X B ∧ ∀ X' : Nat → Prop, X' B → evBank ut d X' := by
  unfold evBank at h
  cases h1 : linFree ut (16 * d) 7 with
  | true => rw [h1] at h; exact ⟨_, ⟨Nat.le_refl _, by omega⟩, h1, h, fun X' hX => by unfold evBank; rw [h1]; exact hX⟩
  | false =>
    rw [h1] at h
    cases h2 : linFree ut (16 * d + 7) 7 with
    | true => rw [h2] at h; exact ⟨_, ⟨by omega, Nat.le_refl _⟩, h2, h, fun X' hX => by unfold evBank; rw [h1, h2]; exact hX⟩
    | false => rw [h2] at h; exact h.elim
def evCall (P : Program) (T : TT) (env : Nat → TV) (mem : Nat → Option (List AV)) (ub ut : Nat → Bool) (ok : Nat → Bool) (d : Nat) (f : FuncId) (args : List (Operand × TypeId)) (K : Dl → Prop) : Prop :=
  evArgs env T args fun l => bif !ub d && !ub 0 then evBank ut d fun B => ∃ (m : List (Nat × List AV)) (R : Out → Prop), FnM P f m l R ∧ memIs mem ok m ∧ ∀ o, R o → (o.tk.all fun x => Nat.ble 2 x.1 && Nat.blt x.1 9) = true → K (outDl d B m o) else False
def evAppend (T : TT) (cur : Nat → Option Nat) (ut : Nat → Bool) (d : Nat) (t0 : TypeId) (x y : TV) (K : Dl → Prop) : Prop :=
  isL x fun t v e es => isL y fun _ _ e' es' =>
    let e0 := (ti T t0).el
    bif (ti T t0).sl && (ti T e0).ok && (Nat.beq e e0 || (Nat.beq t 1 && es.isEmpty)) && (Nat.beq e' e0 || es'.isEmpty) && Nat.ble 1 (ti T e0).byt then
      (es.length + es'.length) * (ti T e0).byt ≤ 140737488355328 ∧
      match t with
      | 0 => False
      | 1 => bif ut (16 * d) || Nat.ble d 1 then False else K { v := .one (.lst (16 * d) 0 e0 (es ++ es')), cu := [(16 * d, 0)] }
      | t + 2 => match cur (t + 2) with
        | some c => ut (t + 2) = true ∧ v = c ∧ K { v := .one (.lst (t + 2) (v + 1) e0 (es ++ es')), cu := [(t + 2, v + 1)] }
        | none => False
    else False
def ikEq : IntKind → IntKind → Bool
  | .i8, .i8 | .i16, .i16 | .i32, .i32 | .i64, .i64 | .u8, .u8 | .u16, .u16 | .u32, .u32 | .u64, .u64 => true
  | _, _ => false
def isSh : BinOp → Bool
  | .shl | .shr => true
  | _ => false
def minList : List Int → Int → Int
  | [], x => x
  | y :: r, x => minList r (if y < x then y else x)
def evInts : List TV → (IntKind → List Int → Prop) → Prop
  | [], _ => False
  | [x], K => isI x fun k n => K k [n]
  | x :: r, K => isI x fun k n => evInts r fun k' l => bif ikEq k k' then K k (n :: l) else False
def evSlice (T : TT) (i : TI) (x : TV) (lo hi mx : Option Int) (K : Dl → Prop) : Prop :=
  isL x fun t v e es => bif i.sl && Nat.beq i.el e && Nat.ble 1 (ti T e).sz then match hi, mx with
    | none, none => match lo with
      | none => False
      | some l => 0 ≤ l ∧ l ≤ es.length ∧ one K (.lst t v e (es.drop l.toNat))
    | some h, none => 0 ≤ h ∧ h ≤ es.length ∧ match lo with
      | none => one K (.lst 0 0 e (es.take h.toNat))
      | some l => 0 ≤ l ∧ l ≤ h ∧ one K (.lst 0 0 e ((es.take h.toNat).drop l.toNat))
    | some h, some q => q = h ∧ 0 ≤ h ∧ h ≤ es.length ∧ match lo with
      | none => one K (.lst 0 0 e (es.take h.toNat))
      | some _ => False
    | none, some _ => False
  else False
def isConst : Operand → Bool
  | .const _ => true
  | _ => false
def isNilC : Operand → Bool
  | .const (.slice none 0 0) => true
  | _ => false
theorem isNilC_eq {x : Operand} (h : isNilC x = true) : x = .const (.slice none 0 0) := by
  unfold isNilC at h
  split at h
  · rfl
  · cases h
/-- An operation, read. 'ok': the boxes that it may touch. -/
def evOp (P : Program) (T : TT) (f : FS) (ok : Nat → Bool) (o : Oper) (K : Dl → Prop) : Prop :=
  let d := o.dst.getD 0
  match o.op with
  | .move x => K { v := evo f.env (ti T o.type).el x }
  | .assign x => bif isNilC x then fresh f.ut d (ti T o.type).el [] K else K { v := evo f.env (ti T o.type).el x }
  | .pick c a b => isB (evo f.env 0 c) fun x => match x with | true => K { v := evo f.env (ti T o.type).el a } | false => K { v := evo f.env (ti T o.type).el b }
  | .alloc t => bif !f.ub d then bif (ti T t).ok then K { v := .one (.ptr d 0), mm := [(d, (ti T t).zero)], nb := [d] } else False else False
  | .box t x => match evo f.env (ti T t).el x with
    | .pv p => bif !f.ub d then K { v := .one (.ptr d 0), mm := [(d, p.2)], nb := [d] } else False
    | _ => False
  | .build t parts => bif (ti T t).ok && (ti T t).fl.all (fun x => Nat.ble 1 (ti T x.2).sz) && Nat.blt 0 (ti T t).fl.length then evFill f.env (fun j => (ti T t).fl[j]?) T (ti T t).zero (fun cs => K { v := .agg cs }) parts.toList else False
  | .buildSlice t n parts =>
    let e := (ti T t).el
    bif Nat.ble (ti T e).sz 262144 then bif (ti T t).sl && (ti T e).ok && Nat.ble n 64 then
      evFill f.env (fun j => some (j * (ti T e).sz, e)) T (rep0 (ti T e).zero n) (fun cs => bif (stripV cs).all AV.clean then fresh f.ut d e (chunks (ti T e).sz n (stripV cs)) K else False) parts.toList
    else False else False
  | .load t x => match evo f.env 0 x with
    | .pv (false, [.ptr b off]) => match f.mem b with
      | some cs => bif ok b then bif Nat.ble (off + (ti T t).sz) cs.length && Nat.ble 1 (ti T t).sz && (ti T t).ok then K { v := sub (ti T t) cs off } else False else False
      | none => False
    | .pv (false, [.eptr cs]) => bif Nat.ble (ti T t).sz cs.length && Nat.ble 1 (ti T t).sz && (ti T t).ok then K { v := sub (ti T t) cs 0 } else False
    | _ => False
  | .store t x y => match evo f.env 0 x, evo f.env (ti T t).el y with
    | .pv (false, [.ptr b off]), .pv p => match f.mem b with
      | some cs => bif ok b then bif Nat.beq p.2.length (ti T t).sz && Nat.ble (off + p.2.length) cs.length && (ti T t).ok then K { v := .no, mm := [(b, lay cs off p.2)] } else False else False
      | none => False
    | _, _ => False
  | .nilCheck x => match evo f.env 0 x with
    | .pv (false, [.ptr b off]) => one K (.ptr b off)
    | .pv (false, [.eptr cs]) => one K (.eptr cs)
    | _ => False
  | .binOp op t x y _ => match evo f.env 0 x, evo f.env 0 y with
    | .pv (false, [.i k a]), .pv (false, [.i k' b]) => bif ikEq k k' || isSh op then evBin op k a b K else False
    | .pv (false, [.b a]), .pv (false, [.b b]) => bif (ti T t).bl then evEq op K (a == b) else False
    | .pv (false, [.s a]), .pv (false, [.s b]) => evEq op K (a.toList == b.toList)
    | .pv (true, cs), .pv (true, ds) => bif (ti T t).eqs && Nat.beq cs.length (ti T t).sz then eqI cs ds (evEq op K) else False
    | _, _ => False
  | .unOp .not _ x => isB (evo f.env 0 x) fun b => one K (.b !b)
  | .unOp .neg _ x => isI (evo f.env 0 x) fun k n => ∃ r, k.wrap (0 - n) = r ∧ one K (.i k r)
  | .convert src dst x => match evo f.env 0 x with
    | .pv (false, [.i _ n]) => match (ti T src).ik, (ti T dst).ik with
      | some _, some k => ∃ r, k.wrap n = r ∧ one K (.i k r)
      | _, _ => False
    | .pv (false, [.lst _ _ e es]) => bif (ti T src).sl && Nat.beq (ti T src).el e && (ti T dst).st && (match (ti T e).ik with | some .u8 => true | _ => false) && Nat.beq (ti T e).sz 1 then
        (∀ xs ∈ es, ∃ n, xs = [.i .u8 n]) ∧ one K (.s (toBA es)) else False
    | _ => False
  | .makeSlice t l c => isI (evo f.env 0 l) fun _ n => isI (evo f.env 0 c) fun _ m =>
    let e := (ti T t).el
    n = m ∧ 0 ≤ n ∧ n * (ti T e).byt ≤ 140737488355328 ∧ n ≤ 140737488355328 ∧ bif (ti T t).sl && (ti T e).ok && (ti T e).zero.all (fun a => a.strip.clean) then
      (bif isConst l then fresh f.ut d e (List.replicate n.toNat (stripV (ti T e).zero)) K else bif !f.ub d then K { v := .one (.row d n.toNat e), mm := [(d, rep0 (ti T e).zero n.toNat)], nb := [d] } else False) else False
  | .slice t x lo hi mx => evIdx f.env lo fun l => evIdx f.env hi fun h => evIdx f.env mx fun m => evSlice T (ti T t) (evo f.env 0 x) l h m K
  | .fieldAddr t x j => match (ti T t).fl[j]? with
    | none => False
    | some (off, ty) => bif Nat.ble 1 (ti T ty).sz then (match evo f.env 0 x with
      | .pv (false, [.ptr b o']) => one K (.ptr b (o' + off))
      | .pv (false, [.eptr cs]) => one K (.eptr (cs.drop off))
      | _ => False) else False
  | .field t x j => match (ti T t).fl[j]? with
    | none => False
    | some (off, ty) => match evo f.env 0 x with
      | .pv (true, cs) => bif Nat.ble (off + (ti T ty).sz) cs.length && Nat.ble 1 (ti T ty).sz && (ti T ty).ok then K { v := sub (ti T ty) cs off } else False
      | _ => False
  | .indexAddr t x ix => isLR (evo f.env 0 x) (fun _ _ e es => isI (evo f.env 0 ix) fun _ n => 0 ≤ n ∧ bif (ti T t).sl && Nat.beq (ti T t).el e && Nat.ble 1 (ti T e).sz then ∃ cs, es[n.toNat]? = some cs ∧ one K (.eptr cs) else False) fun b m e => isI (evo f.env 0 ix) fun _ n => (0 ≤ n ∧ n < m) ∧ bif (ti T t).sl && Nat.beq (ti T t).el e && Nat.ble 1 (ti T e).sz then one K (.ptr b (n.toNat * (ti T e).sz)) else False
  | .extract x j => match evo f.env 0 x with
    | .tup xs => match xs[j]? with
      | some p => K { v := .pv p }
      | none => False
    | _ => False
  | .call c => match c.callee, c.args.toList, c.argTypes.toList with
    | .value (.func g), args, tys => evCall P T f.env f.mem f.ub f.ut ok d g (args.zip (tys ++ List.replicate args.length 0)) K
    | .value (.tmp x), args, tys => match f.env x with
      | .pv (false, [.fn g]) => evCall P T f.env f.mem f.ub f.ut ok d g (args.zip (tys ++ List.replicate args.length 0)) K
      | _ => False
    | .builtin .len, [x], t :: _ => isL (evo f.env 0 x) fun _ _ _ es => bif (ti T t).sl then one K (.i .i64 es.length) else False
    | .builtin .min, l, _ => evInts (l.map (evo f.env 0)) fun k xs => match xs with | n :: r => one K (.i k (minList r n)) | [] => False
    | .builtin .append, [x, y], [t0, t1] => bif Nat.beq t0 t1 then evAppend T f.cur f.ut d t0 (evo f.env (ti T t0).el x) (evo f.env (ti T t0).el y) K else False
    | _, _, _ => False
  | _ => False
end Go.Proofs.Ytpeejmolbmhjjaa.Sx
