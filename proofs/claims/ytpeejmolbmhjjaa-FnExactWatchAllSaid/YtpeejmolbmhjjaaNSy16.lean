/- What a function's body comes to over plain values, and the contract of a function out of it; there is no condition beyond those each statement names. -/
import Derived.Test.YtpeejmolbmhjjaaNSy15d
namespace Go.Proofs.Ytpeejmolbmhjjaa.Sx
set_option linter.unusedSimpArgs false
set_option linter.unusedVariables false
open Go
def setOK (s : St) (c : Operand) (x : Bool) (K : St → Prop) : Prop := match c with | .tmp t => setK s t x K | _ => K s
def St.setO (s : St) (c : Operand) (x : Bool) : St := match c with | .tmp t => s.setB t x | _ => s
/-- What goes on behind a part: told once (it stands in the goal many times over). -/
def seqK (V : St → (Ex → St → Prop) → Prop) (K : Ex → St → Prop) : Ex → St → Prop := fun e s' => match e with | .normal => V s' K | .exit id => K (.exit id) s' | .ret => K .ret s'
def blkK (id : Nat) (K : Ex → St → Prop) : Ex → St → Prop := fun e s' => match e with | .normal => K .normal s' | .exit id' => bif Nat.beq id' id then K .normal s' else K (.exit id') s' | .ret => K .ret s'
def lopK {α : Type} (I : α → Prop) (st : α → St) (μ : α → Nat) (x : α) (K : Ex → St → Prop) : Ex → St → Prop := fun e s' => match e with | .normal => ∃ x', I x' ∧ s'.le (st x') ∧ μ x' < μ x | .exit id => K (.exit id) s' | .ret => K .ret s'
/-- A body, read. 'ks': the boxes that were handed in. -/
def vc (P : Program) (T : TT) (ks : List Nat) : Code → St → (Ex → St → Prop) → Prop
  | .skip, s, K => K .normal s
  | .region _ ops draw, s, K => match draw with
    | false => vcOps P T ops.toList (ops.toList.map fun o => (o, fun _ => true)) s (K .normal)
    | true => ∃ (π : List Nat) (fps : List (Nat × List Nat)), drawOk ops.toList π fps = true ∧ vcOps P T ops.toList (π.map fun i => (ops.toList.getD i default, okOf fps i)) s (K .normal)
  | .seq a b, s, K => vc P T ks a s (seqK (vc P T ks b) K)
  | .cond c a b, s, K => isB (evo s.fs.env 0 c) fun x => match x with | true => setOK s c true fun s => vc P T ks a s K | false => setOK s c false fun s => vc P T ks b s K
  | .block id c, s, K => vc P T ks c s (blkK id K)
  | .loop c, s, K => ∃ (α : Type) (I : α → Prop) (st : α → St) (μ : α → Nat) (x0 : α), (∀ x, (st x).pat ks = true) ∧ I x0 ∧ s.le (st x0) ∧
      ∀ x, I x → vc P T ks c (st x) (lopK I st μ x K)
  | .exit id, s, K => K (.exit id) s
  | .ret, s, K => K .ret s
  | _, _, _ => False
theorem setOK_eq (s : St) (c : Operand) (x : Bool) (K : St → Prop) : setOK s c x K = K (s.setO c x) := by cases c <;> first | rfl | exact setK_eq _ _ _ _
def codeOk (n : Nat) : Code → Bool
  | .region _ ops _ => opsOk n ops.toList
  | .seq a b => codeOk n a && codeOk n b
  | .cond _ a b => codeOk n a && codeOk n b
  | .block _ c => codeOk n c
  | .loop c => codeOk n c
  | _ => true
def exOf : Ex → Exit
  | .normal => .normal
  | .exit id => .exit id
  | .ret => .ret
section
variable {P : Program} {T : TT} {G : Gd}
theorem vc_sound (hT : TabOk P T) (hm : P.follows .mixedOrders = true) (ks : List Nat) (hks : ∀ k, G.pk k → k ∈ ks) : ∀ (c : Code) (K : Ex → St → Prop) (Q : Exit → Act → World → Prop) (s : St) (C : Cx) (a : Act) (w : World), codeOk G.n c = true →
    (∀ e s C a w, K e s → Rel P G s.fs C a w → Q (exOf e) a w) → vc P T ks c s K → Rel P G s.fs C a w → c.wp P Q a w := by
  intro c
  induction c with
  | skip => intro K Q s C a w hn hQ hK h; exact wp_skip (hQ .normal s C a w hK h)
  | region id ops draw =>
    intro K Q s C a w hn hQ hK h
    cases draw with
    | false =>
      refine wp_region_list ?_
      have h1 := vcOps_sound hT ops Q (K .normal) (fun s C a w hs hr => hQ .normal s C a w hs hr) (ops.toList.map fun o => (o, fun _ => true)) s C a w (by simpa [codeOk, List.map_map, Function.comp_def] using hn) hK h
      simpa [List.map_map, Function.comp_def] using h1
    | true =>
      obtain ⟨π, fps, hd, hK⟩ := hK
      exact draw_sound hT hm ops id Q (K .normal) (fun s C a w hs hr => hQ .normal s C a w hs hr) π fps hd s C a w hn hK h
  | seq x y ihx ihy =>
    intro K Q s C a w hn hQ hK h
    simp only [codeOk, Bool.and_eq_true] at hn
    refine wp_seq (ihx _ _ s C a w hn.1 (fun e s' C' a' w' hs hr => ?_) hK h)
    cases e with
    | normal => exact ihy K Q s' C' a' w' hn.2 hQ hs hr
    | exit id => exact hQ (.exit id) s' C' a' w' hs hr
    | ret => exact hQ .ret s' C' a' w' hs hr
  | cond c x y ihx ihy =>
    intro K Q s C a w hn hQ hK h
    simp only [codeOk, Bool.and_eq_true] at hn
    simp only [vc, setOK_eq] at hK
    obtain ⟨b, hb, hK⟩ := isB_inv hK
    have hv := evo_ok h 0 c
    rw [hb] at hv
    have hv := inv_b hv
    have hs : ∀ b', b' = b → Rel P G (s.setO c b').fs C a w := fun b' e => by
      subst e
      cases c with
      | tmp t => show Rel P G (s.setB t b').fs C a w; rw [St.fs_setB s t b' hb]; exact h
      | _ => exact h
    cases b with
    | true => exact wp_cond_true hv (ihx K Q _ C a w hn.1 hQ hK (hs true rfl))
    | false => exact wp_cond_false hv (ihy K Q _ C a w hn.2 hQ hK (hs false rfl))
  | block id c ih =>
    intro K Q s C a w hn hQ hK h
    refine wp_block (ih _ _ s C a w hn (fun e s' C' a' w' hs hr => ?_) hK h)
    cases e with
    | normal => exact hQ .normal s' C' a' w' hs hr
    | exit id' =>
      show if id' = id then Q .normal a' w' else Q (.exit id') a' w'
      change (bif Nat.beq id' id then K .normal s' else K (.exit id') s') at hs
      by_cases hid : id' = id
      · rw [if_pos hid]
        rw [show Nat.beq id' id = true by rw [hid]; simp] at hs
        exact hQ .normal s' C' a' w' hs hr
      · rw [if_neg hid]
        have : Nat.beq id' id = false := by
          cases hq : Nat.beq id' id with
          | false => rfl
          | true => exact absurd (Nat.eq_of_beq_eq_true hq) hid
        rw [this] at hs
        exact hQ (.exit id') s' C' a' w' hs hr
    | ret => exact hQ .ret s' C' a' w' hs hr
  | loop c ih =>
    intro K Q s C a w hn hQ hK h
    obtain ⟨α, I, st, μ, x0, hpat, hI0, h0, hround⟩ := hK
    -- the rounds, by the measure
    intro b k cs
    have key : ∀ n x C a w, μ x = n → I x → Rel P G (st x).fs C a w → ∃ e a' w', Q e a' w' ∧ Arrives P (lone (b.at a (.code c :: .inLoop c :: k)) cs w) b k cs e a' w' := by
      intro n
      induction n using Nat.strongRecOn with
      | _ n ihn =>
        intro x C a w hx hI hR
        obtain ⟨e, a₁, w₁, hq, harr⟩ := ih _ (Exit.then (fun a' w' => ∃ x' C', I x' ∧ μ x' < μ x ∧ Rel P G (st x').fs C' a' w') Q) (st x) C a w hn (fun e s' C' a' w' hs hr => by
          cases e with
          | normal =>
            obtain ⟨x', hI', hle, hlt⟩ := hs
            exact ⟨x', C', hI', hlt, hr.weak hle (hpat x') hks⟩
          | exit id => exact hQ (.exit id) s' C' a' w' hs hr
          | ret => exact hQ .ret s' C' a' w' hs hr) (hround x hI) hR b (.inLoop c :: k) cs
        cases e with
        | normal =>
          obtain ⟨x', C', hI', hlt, hR'⟩ := hq
          obtain ⟨e₂, a₂, w₂, hq₂, harr₂⟩ := ihn (μ x') (hx ▸ hlt) x' C' a₁ w₁ rfl hI' hR'
          exact ⟨e₂, a₂, w₂, hq₂, .of_steps (Steps.trans harr (.one step_inLoop)) harr₂⟩
        | exit id => exact ⟨_, a₁, w₁, hq, .pass (x := .inLoop c) rfl (fun _ _ => .inl (by simp)) harr⟩
        | goto l => exact ⟨_, a₁, w₁, hq, .pass (x := .inLoop c) rfl (fun _ _ => .inl (by simp)) harr⟩
        | ret => exact ⟨_, a₁, w₁, hq, .pass (x := .inLoop c) rfl (fun _ _ => .inl (by simp)) harr⟩
        | panic ch => exact ⟨_, a₁, w₁, hq, .pass (x := .inLoop c) rfl (fun _ _ => .inl (by simp)) harr⟩
        | outgrown => exact ⟨_, a₁, w₁, hq, .pass (x := .inLoop c) rfl (fun _ _ => .inl (by simp)) harr⟩
    obtain ⟨e, a', w', hq, harr⟩ := key _ x0 C a w rfl hI0 (h.weak h0 (hpat x0) hks)
    exact ⟨e, a', w', hq, .of_steps (.one step_loop) harr⟩
  | exit id => intro K Q s C a w hn hQ hK h; exact wp_exit (hQ (.exit id) s C a w hK h)
  | ret => intro K Q s C a w hn hQ hK h; exact wp_ret (hQ .ret s C a w hK h)
  | _ => intro K Q s C a w hn hQ hK h; exact hK.elim
end
/-- What a function hands back: each result's slot, or the box that holds it. -/
def resV (T : TT) (s : St) : ResultVar → Option PV
  | .tmp t => match s.fs.env t with | .pv p => some p | _ => none
  | .cell p ty => match s.fs.env p with
    | .pv (false, [.ptr b off]) => match s.fs.mem b with
      | some cs => bif Nat.ble (off + (ti T ty).sz) cs.length && (ti T ty).ok then some ((ti T ty).agg, (cs.drop off).take (ti T ty).sz) else none
      | none => none
    | _ => none
def resVs (T : TT) (s : St) : List ResultVar → Option (List PV)
  | [] => some []
  | r :: rs => match resV T s r, resVs T s rs with
    | some p, some ps => some (p :: ps)
    | _, _ => none
/-- Told to the caller: lineages by the names under which they are handed out, others dropped; the new box that is handed out is number 0. -/
def renA (ex : List (Nat × Nat)) (nb : Nat) : AV → AV
  | .lst t v e es => match lk ex t with | some k => .lst k v e es | none => .lst 0 0 e es
  | .ptr b off => .ptr (bif Nat.beq b nb then 0 else b) off
  | x => x
def renP (ex : List (Nat × Nat)) (nb : Nat) (p : PV) : PV := (p.1, p.2.map (renA ex nb))
def resA (ks : List Nat) (nb : Nat) : AV → Bool
  | .ptr b _ => Nat.beq b nb && !Nat.beq nb 0 || mem? ks b
  | .row _ _ _ => false
  | _ => true
def notN : AV → Bool
  | .nl _ _ => false
  | _ => true
/-- Handed out as the caller sees it. -/
def stA : AV → Bool
  | .ptr _ _ | .row _ _ _ | .nl _ _ => false
  | _ => true
def exOk (cur : Nat → Option Nat) : List (Nat × Nat) → Bool
  | [] => true
  | (t, k) :: r => (match cur t with | some _ => true | none => false) && Nat.ble 2 t && Nat.ble 2 k && Nat.blt k 9 && (r.all fun x => !Nat.beq x.1 t && !Nat.beq x.2 k) && exOk cur r
def tkOf (cur : Nat → Option Nat) : List (Nat × Nat) → List (Nat × Nat)
  | [] => []
  | (t, k) :: r => match cur t with | some v => (k, v) :: tkOf cur r | none => tkOf cur r
def memOf (m : Nat → Option (List AV)) : List Nat → Option (List (List AV))
  | [] => some []
  | k :: r => match m k, memOf m r with
    | some cs, some l => some (stripV cs :: l)
    | _, _ => none
/-- At a function's end: what is handed out as it stands. -/
def atRetG (T : TT) (rs : List ResultVar) (ks : List Nat) (R : Out → Prop) (s : St) : Prop :=
  match resVs T s rs with
  | none => False
  | some ps => ∃ (ex : List (Nat × Nat)) (nb : Nat), exOk s.fs.cur ex = true ∧ (ps.all fun p => p.2.all (resA ks nb)) = true ∧
    match memOf s.fs.mem ks with
    | none => False
    | some ms => (ms.all fun cs => cs.all AV.clean) = true ∧
      match (if Nat.beq nb 0 then some none else match s.fs.mem nb with | some cs => (if (stripV cs).all AV.clean && !mem? ks nb then some (some (stripV cs)) else none) | none => none : Option (Option (List AV))) with
      | none => False
      | some nbc => R { tk := tkOf s.fs.cur ex, mem := ms, nb := nbc, res := match ps with | [p] => .pv (renP ex nb p) | _ => .tup (ps.map (renP ex nb)) }
/-- A cell of a row that is new with all that it leads to. -/
def newA (T : TT) : AV → Bool
  | .b _ | .i _ _ | .s _ => true
  | .nl e _ => Nat.ble 1 (ti T e).sz && (ti T e).ok
  | _ => false
/-- At a function's end: a slice over a box of its own is handed out; nobody writes to that box any more. 'nw': all that it leads to is new. -/
def atRow (T : TT) (rs : List ResultVar) (ks : List Nat) (R : Out → Prop) (s : St) : Prop :=
  ∃ (b n : Nat) (e : TypeId) (cs : List AV) (ms : List (List AV)) (nw : Bool), resVs T s rs = some [(false, [.row b n e])] ∧ mem? ks b = false ∧ s.fs.mem b = some cs ∧ (∀ x ∈ stripV cs, x.clean = true) ∧
    cs.length = n * (ti T e).sz ∧ (ti T e).ok = true ∧ memOf s.fs.mem ks = some ms ∧ (ms.all fun cs => cs.all AV.clean) = true ∧ (nw = true → ∀ x ∈ cs, newA T x = true) ∧
    R { mem := ms, res := .pv (false, [bif nw then .nl e (chunks (ti T e).sz n (stripV cs)) else .lst 0 0 e (chunks (ti T e).sz n (stripV cs))]) }
/-- At a function's end. -/
def atRet (T : TT) (rs : List ResultVar) (ks : List Nat) (R : Out → Prop) (s : St) : Prop := atRetG T rs ks R s ∨ atRow T rs ks R s
def st0 (mem : List (Nat × List AV)) (args : List PV) : St where
  env := args.zipIdx.map fun x => (x.2, .pv x.1)
  mem := mem
  cur := [(1, 0)]
  ub := mem.map (·.1)
  ut := [1]
end Go.Proofs.Ytpeejmolbmhjjaa.Sx
