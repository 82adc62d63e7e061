/- What an operation comes to over plain values: the reading itself. -/
import Derived.Test.YtpeejmolbmhjjaaNSy2
namespace Go.Proofs.Ytpeejmolbmhjjaa.Sx
set_option linter.unusedSimpArgs false
set_option linter.unusedVariables false
open Go
/-- What the reading asks of a type. -/
structure TI where
  ok : Bool
  agg : Bool
  sz : Nat
  byt : Nat
  fl : List (Nat × TypeId)
  el : TypeId
  sl : Bool
  bl : Bool
  st : Bool
  eqs : Bool
  ik : Option IntKind
  zero : List AV
def elOf (P : Program) (t : TypeId) : TypeId := match P.underlying t with | some (.slice e) => e | _ => 0
def cellTys (P : Program) : Nat → TypeId → List TypeId
  | 0, t => [t]
  | n + 1, t => match P.underlying t with
    | some (.struct fs) => fs.toList.flatMap fun g => cellTys P n g.type
    | _ => [t]
def constA (e : TypeId) : Value → AV
  | .bool x => .b x
  | .int k n => .i k n
  | .string x => .s x
  | .slice none 0 0 => .lst 1 0 e []
  | .pointer none => .nilp
  | _ => .nul
def zeroOf (P : Program) (t : TypeId) : List Value := match (P.info? t).bind (·.zero) with | some z => z.cells.toList | none => []
def isAg (P : Program) (t : TypeId) : Bool := match P.underlying t with | some (.struct _) | some (.array _ _) => true | _ => false
def tiOf (P : Program) (t : TypeId) : TI where
  ok := ((P.info? t).bind (·.zero)).isSome && (P.underlying t).isSome && Nat.beq (zeroOf P t).length (P.cellsOf t) && (zeroOf P t).all (·.oneCell') && Nat.blt 0 (P.cellsOf t) && (isAg P t || Nat.beq (P.cellsOf t) 1)
  agg := isAg P t
  sz := P.cellsOf t
  byt := P.bytesOf t
  fl := match P.underlying t with | some (.struct fs) => fs.toList.map fun g => (g.offset, g.type) | _ => []
  el := elOf P t
  sl := match P.underlying t with | some (.slice _) => true | _ => false
  bl := match P.underlying t with | some .bool => true | _ => false
  st := match P.underlying t with | some .string => true | _ => false
  eqs := match P.underlying t with
    | some (.struct fs) => !P.stoodInHeld t && !P.eqGuardType P.depth t && (fs.toList.zipIdx.all fun x => x.1.name != "_" && Nat.beq x.1.offset x.2 && (match P.underlying x.1.type with | some (.int _) => true | _ => false)) && Nat.beq fs.size (P.cellsOf t)
    | _ => false
  ik := match P.underlying t with | some (.int k) => some k | _ => none
  zero := ((zeroOf P t).zip (cellTys P 6 t ++ List.replicate (P.cellsOf t) 0)).map fun x => constA (elOf P x.2) x.1
abbrev TT := List (Nat × TI)
def lk {α : Type} : List (Nat × α) → Nat → Option α
  | [], _ => none
  | (j, v) :: r, k => bif Nat.beq j k then some v else lk r k
def ti (T : TT) (t : TypeId) : TI := match lk T t with | some i => i | none => { ok := false, agg := false, sz := 0, byt := 0, fl := [], el := 0, sl := false, bl := false, st := false, eqs := false, ik := none, zero := [] }
/-- The table tells the program's types. -/
def TabOk (P : Program) (T : TT) : Prop := ∀ (t : Nat) (i : TI), lk T t = some i → i = tiOf P t

def evo (env : Nat → TV) (e : TypeId) : Operand → TV
  | .tmp t => env t
  | .const (.agg _) => .no
  | .const (.tuple _) => .no
  | .const v => .one (constA e v)
  | .func g => .one (.fn g)
  | _ => .no
/-- What an operation does to the state. -/
structure Dl where
  v : TV
  mm : List (Nat × List AV) := []
  nb : List Nat := []
  cu : List (Nat × Nat) := []
def FS.app (f : FS) (dst : Option Tmp) (d : Dl) : FS where
  env := match dst with | none => f.env | some j => fun k => bif Nat.beq k j then d.v else f.env k
  mem := fun k => match lk d.mm k with | some cs => some cs | none => f.mem k
  cur := fun k => match lk d.cu k with | some v => some v | none => f.cur k
  ub := fun k => (d.nb.any fun j => Nat.beq k j) || f.ub k
  ut := fun k => (d.cu.any fun j => Nat.beq k j.1) || f.ut k
def isB (x : TV) (K : Bool → Prop) : Prop := match x with | .pv (false, [.b x]) => K x | _ => False
def isI (x : TV) (K : IntKind → Int → Prop) : Prop := match x with | .pv (false, [.i k n]) => K k n | _ => False
def isL (x : TV) (K : Nat → Nat → TypeId → List (List AV) → Prop) : Prop := match x with | .pv (false, [.lst t v e es]) => K t v e es | _ => False
def isLR (x : TV) (K : Nat → Nat → TypeId → List (List AV) → Prop) (K2 : Nat → Nat → TypeId → Prop) : Prop := match x with
  | .pv (false, [.lst t v e es]) => K t v e es
  | .pv (false, [.row b n e]) => K2 b n e
  | _ => False
def one (K : Dl → Prop) (a : AV) : Prop := K { v := .one a }
/-- A slice without spare places: of a new lineage, where that is free. -/
def fresh (ut : Nat → Bool) (d : Nat) (e : TypeId) (es : List (List AV)) (K : Dl → Prop) : Prop :=
  bif ut (16 * d) || Nat.ble d 1 then K { v := .one (.lst 1 0 e es) } else K { v := .one (.lst (16 * d) 0 e es), cu := [(16 * d, 0)] }
def evBin (op : BinOp) (k : IntKind) (a : Int) (b : Int) (K : Dl → Prop) : Prop :=
  match op with
  | .add => ∃ r, k.wrap (a + b) = r ∧ one K (.i k r)
  | .sub => ∃ r, k.wrap (a - b) = r ∧ one K (.i k r)
  | .mul => ∃ r, k.wrap (a * b) = r ∧ one K (.i k r)
  | .quo => b ≠ 0 ∧ ∃ r, k.wrap (a.tdiv b) = r ∧ one K (.i k r)
  | .rem => b ≠ 0 ∧ ∃ r, a.tmod b = r ∧ one K (.i k r)
  | .and => ∃ r, k.wrap (BitVec.ofInt k.bits a &&& BitVec.ofInt k.bits b).toNat = r ∧ one K (.i k r)
  | .or => ∃ r, k.wrap (BitVec.ofInt k.bits a ||| BitVec.ofInt k.bits b).toNat = r ∧ one K (.i k r)
  | .xor => ∃ r, k.wrap (BitVec.ofInt k.bits a ^^^ BitVec.ofInt k.bits b).toNat = r ∧ one K (.i k r)
  | .andNot => ∃ r, k.wrap (BitVec.ofInt k.bits a &&& ~~~ BitVec.ofInt k.bits b).toNat = r ∧ one K (.i k r)
  | .shl => 0 ≤ b ∧ ∃ r, k.wrap (a * 2 ^ (min b.toNat k.bits)) = r ∧ one K (.i k r)
  | .shr => 0 ≤ b ∧ ∃ r, a.fdiv (2 ^ (min b.toNat k.bits)) = r ∧ one K (.i k r)
  | .eql => one K (.b (decide (a = b)))
  | .neq => one K (.b (!decide (a = b)))
  | .lss => one K (.b (decide (a < b)))
  | .leq => one K (.b (decide (a ≤ b)))
  | .gtr => one K (.b (decide (b < a)))
  | .geq => one K (.b (decide (b ≤ a)))
def evEq (op : BinOp) (K : Dl → Prop) (r : Bool) : Prop := match op with | .eql => one K (.b r) | .neq => one K (.b !r) | _ => False
def eqI : List AV → List AV → (Bool → Prop) → Prop
  | [], [], K => K true
  | .i k a :: r, .i k' b :: s, K => k = k' ∧ eqI r s fun x => K (decide (a = b) && x)
  | _, _, _ => False
def toBA (es : List (List AV)) : ByteArray := (es.map fun xs => match xs with | [.i .u8 n] => n | _ => 0).foldl (fun r n => r.push (UInt8.ofNat n.toNat)) ByteArray.empty
def sub (i : TI) (cs : List AV) (off : Nat) : TV := bif i.agg then .agg ((cs.drop off).take i.sz) else .pv (false, (cs.drop off).take i.sz)
/-- A part laid over a row of cells. -/
def lay (cs : List AV) (off : Nat) (ps : List AV) : List AV := cs.take off ++ (ps ++ cs.drop (off + ps.length))
def evFill (env : Nat → TV) (place : Nat → Option (Nat × TypeId)) (T : TT) (cs : List AV) (K : List AV → Prop) : List (Nat × Operand) → Prop
  | [] => K cs
  | (j, x) :: r => match place j with
    | none => False
    | some (off, ty) => match evo env (ti T ty).el x with
      | .pv p => bif Nat.beq p.2.length (ti T ty).sz && Nat.ble (off + p.2.length) cs.length then evFill env place T (lay cs off p.2) K r else False
      | _ => False
def chunks (sz : Nat) : Nat → List AV → List (List AV)
  | 0, _ => []
  | n + 1, cs => cs.take sz :: chunks sz n (cs.drop sz)
def stripV (cs : List AV) : List AV := cs.map AV.strip
def rep0 (cs : List AV) : Nat → List AV
  | 0 => []
  | n + 1 => cs ++ rep0 cs n
def evIdx (env : Nat → TV) : Option Operand → (Option Int → Prop) → Prop
  | none, K => K none
  | some x, K => isI (evo env 0 x) fun _ n => K (some n)
end Go.Proofs.Ytpeejmolbmhjjaa.Sx
