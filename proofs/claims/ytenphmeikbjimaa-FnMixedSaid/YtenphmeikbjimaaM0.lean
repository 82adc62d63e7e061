/- Words for contracts of the reading; there is no condition beyond those each statement names. -/
import Derived.Test.YtenphmeikbjimaaTabY
namespace Go.Proofs.Ytenphmeikbjimaa.Sx
set_option linter.unusedSimpArgs false
set_option linter.unusedVariables false
open Go
abbrev int (n : Int) : PV := (false, [.i .i64 n])
abbrev bool (b : Bool) : PV := (false, [.b b])
/-- A function without boxes that comes to this. -/
def Pure (f : FuncId) (args : List PV) (res : TV) : Prop := FnM Try.prog f [] args fun o => o = { res := res }
theorem goP {f : FuncId} {args : List PV} {res : TV} {M : Nat → Option (List AV)} {ok : Nat → Bool} {K : List (Nat × List AV) → Out → Prop} (h : Pure f args res) (hk : K [] { res := res }) :
    ∃ (m : List (Nat × List AV)) (R : Out → Prop), FnM Try.prog f m args R ∧ memIs M ok m ∧ ∀ o, R o → (o.tk.all fun x => Nat.ble 2 x.1 && Nat.blt x.1 9) = true → K m o :=
  ⟨[], _, h, trivial, fun o ho _ => by subst ho; exact hk⟩
theorem outB {a b : Bool} (h : a = b) : ({ res := .pv (false, [.b a]) } : Out) = { res := .pv (bool b) } := by rw [h]
theorem w64 (n : Int) (h1 : -9223372036854775808 ≤ n) (h2 : n < 9223372036854775808) : IntKind.i64.wrap n = n := by
  unfold IntKind.wrap
  simp only [IntKind.bits, IntKind.signed]
  simp
  omega
theorem goIdx {n : Int} {es : List (List AV)} {c : Bool} {K : List AV → Prop} (cs : List AV) (h0 : 0 ≤ n) (hc : c = true) (h : es[n.toNat]? = some cs) (hk : K cs) :
    0 ≤ n ∧ bif c then ∃ cs, es[n.toNat]? = some cs ∧ K cs else False := ⟨h0, by rw [hc]; exact ⟨cs, h, hk⟩⟩
theorem goW {n : Int} {K : Int → Prop} (h1 : -9223372036854775808 ≤ n) (h2 : n < 9223372036854775808) (hk : K n) : ∃ r, IntKind.i64.wrap n = r ∧ K r := ⟨n, w64 n h1 h2, hk⟩
def bytes (l : List Int) : List (List AV) := l.map fun x => [.i .u8 x]
@[simp] theorem bytes_len (l : List Int) : (bytes l).length = l.length := by simp [bytes]
theorem bytes_app (a b : List Int) : bytes a ++ bytes b = bytes (a ++ b) := by simp [bytes]
theorem bytes_take (a : List Int) (n : Nat) : (bytes a).take n = bytes (a.take n) := by simp [bytes, List.map_take]
theorem bytes_drop (a : List Int) (n : Nat) : (bytes a).drop n = bytes (a.drop n) := by simp [bytes, List.map_drop]
section
variable {T : TT}
def resOf (ex : List (Nat × Nat)) (nb : Nat) : List PV → TV
  | [p] => .pv (renP ex nb p)
  | ps => .tup (ps.map (renP ex nb))
def nbOf (m : Nat → Option (List AV)) (ks : List Nat) : Nat → Option (Option (List AV))
  | 0 => some none
  | nb + 1 => match m (nb + 1) with
    | some cs => bif (stripV cs).all AV.clean && !mem? ks (nb + 1) then some (some (stripV cs)) else none
    | none => none
theorem resOf_eq (ex : List (Nat × Nat)) (nb : Nat) (ps : List PV) : resOf ex nb ps = (match ps with | [p] => TV.pv (renP ex nb p) | _ => TV.tup (ps.map (renP ex nb))) := by
  cases ps with
  | nil => rfl
  | cons p r => cases r <;> rfl
theorem retG {rs : List ResultVar} {ks : List Nat} {R : Out → Prop} {s : St} {ps : List PV} {ms : List (List AV)} {nbc : Option (List AV)} (ex : List (Nat × Nat)) (nb : Nat)
    (h : resVs T s rs = some ps) (h1 : exOk s.fs.cur ex = true) (h2 : (ps.all fun p => p.2.all (resA ks nb)) = true) (h3 : memOf s.fs.mem ks = some ms) (h4 : (ms.all fun cs => cs.all AV.clean) = true)
    (h5 : nbOf s.fs.mem ks nb = some nbc)
    (hR : R { tk := tkOf s.fs.cur ex, mem := ms, nb := nbc, res := resOf ex nb ps }) : Hold (atRet T rs ks R s) := by
  refine ⟨.inl ?_⟩
  unfold atRetG
  rw [h]
  refine ⟨ex, nb, h1, h2, ?_⟩
  rw [h3]
  refine ⟨h4, ?_⟩
  rw [resOf_eq] at hR
  cases nb with
  | zero => cases h5; exact hR
  | succ nb =>
    cases hm : s.fs.mem (nb + 1) with
    | none => simp only [nbOf, hm] at h5; cases h5
    | some cs =>
      simp only [nbOf, hm] at h5
      cases hb : ((stripV cs).all AV.clean && !mem? ks (nb + 1)) with
      | false => rw [hb] at h5; cases h5
      | true =>
        rw [hb] at h5
        cases h5
        simp only [Nat.beq, hb]
        exact hR
end
/-- A function without boxes that comes to something of this kind. -/
def Fx (f : FuncId) (args : List PV) (R : TV → Prop) : Prop := FnM Try.prog f [] args fun o => ∃ v, R v ∧ o = { res := v }
theorem goE {f : FuncId} {args : List PV} {R : TV → Prop} {M : Nat → Option (List AV)} {ok : Nat → Bool} {K : List (Nat × List AV) → Out → Prop} (h : Fx f args R) (hk : ∀ v, R v → K [] { res := v }) :
    ∃ (m : List (Nat × List AV)) (R : Out → Prop), FnM Try.prog f m args R ∧ memIs M ok m ∧ ∀ o, R o → (o.tk.all fun x => Nat.ble 2 x.1 && Nat.blt x.1 9) = true → K m o :=
  ⟨[], _, h, trivial, fun o ho _ => by obtain ⟨v, hv, rfl⟩ := ho; exact hk v hv⟩
theorem retE {T : TT} {rs : List ResultVar} {s : St} {ps : List PV} {R : TV → Prop} (h : resVs T s rs = some ps) (h2 : (ps.all fun p => p.2.all (resA [] 0)) = true) (hR : R (resOf [] 0 ps)) :
    Hold (atRet T rs [] (fun o => ∃ v, R v ∧ o = { res := v }) s) := retG [] 0 h rfl h2 rfl rfl rfl ⟨_, hR, rfl⟩
abbrev byts (l : List Int) : PV := (false, [.lst 0 0 5 (bytes l)])
end Go.Proofs.Ytenphmeikbjimaa.Sx
