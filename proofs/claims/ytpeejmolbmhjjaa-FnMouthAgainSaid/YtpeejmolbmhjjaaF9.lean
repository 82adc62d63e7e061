/- A contract's box may bear another number; the drawing reader's openings; there is no condition beyond those each statement names. -/
import Derived.Test.YtpeejmolbmhjjaaF8
namespace Go.Proofs.Ytpeejmolbmhjjaa.Sx
set_option linter.unusedSimpArgs false
set_option linter.unusedVariables false
open Go
set_option maxRecDepth 100000
set_option maxHeartbeats 0
def AV.nop : AV → Bool
  | .ptr _ _ | .row _ _ _ => false
  | _ => true
theorem AV.nop_of_clean {x : AV} (h : x.clean = true) : x.nop = true := by cases x <;> first | rfl | cases h
theorem Rep.noptr {P : Program} {F : Nat → Nat → Prop} {β β' : Nat → Nat} {U U' : Nat → Bool} {w : World} {a : AV} {v : Value} (h : Rep P F β U w a v) (ha : a.nop = true) : Rep P F β' U' w a v := by
  induction h with
  | nul v h => exact .nul v h
  | b x => exact .b x
  | i k n => exact .i k n
  | s x => exact .s x
  | nilp => exact .nilp
  | ptr bx off h => cases ha
  | row bx n e h => cases ha
  | eptr cs blk off vals h1 h2 ih => exact .eptr cs blk off vals h1 fun c x hx => ih c x hx (AV.nop_of_clean (h1 c x hx).1)
  | nil t v e => exact .nil t v e
  | lst t v e es blk off cap vals hcap hlen h1 h2 ih =>
    exact .lst t v e es blk off cap vals hcap hlen h1 fun j c xs x hx hy => ih j c xs x hx hy (AV.nop_of_clean (h1 j c xs x hx hy).1)
def PV.nop (p : PV) : Bool := p.2.all AV.nop
def TV.nop : TV → Bool
  | .pv p => PV.nop p
  | .tup ps => ps.all PV.nop
  | .no => true
theorem RepL.noptr {P : Program} {F : Nat → Nat → Prop} {β β' : Nat → Nat} {U U' : Nat → Bool} {w : World} {cs : List AV} {vs : List Value} (h : RepL (Rep P F β U w) cs vs) (ha : cs.all AV.nop = true) : RepL (Rep P F β' U' w) cs vs :=
  ⟨h.1, fun j x u hx hu => (h.2 j x u hx hu).noptr (List.all_eq_true.1 ha x (List.mem_of_getElem? hx))⟩
theorem FnM.ren {P : Program} {f : FuncId} {k : Nat} {cs : List AV} {rest : List PV} {R : Out → Prop} (h : FnM P f [(k, cs)] ((false, [.ptr k 0]) :: rest) R) (hk : k ≠ 0) (hcs : cs.all AV.nop = true) (hrest : rest.all PV.nop = true)
    (hR : ∀ o, R o → o.res.nop = true) (b : Nat) : FnM P f [(b, cs)] ((false, [.ptr b 0]) :: rest) R := by
  refine ⟨h.1, fun F β U w vals h1 h2 h3 h4 h5 h6 => ?_⟩
  obtain ⟨hu, ⟨arr, ty, ha1, ha2⟩, hF⟩ := h3 (b, cs) (by simp)
  refine (h.2 F (fun _ => β b) (fun j => Nat.beq j k) w vals h1 (by cases k with | zero => exact absurd rfl hk | succ k => rfl) (fun p hp => ?_) (fun p hp q hq _ => ?_) h5 (fun j x u hx hv => ?_)).mono ?_
  · obtain rfl : p = (k, cs) := by simpa using hp
    exact ⟨by simp, ⟨arr, ty, ha1, ha2.noptr hcs⟩, hF⟩
  · obtain rfl : p = (k, cs) := by simpa using hp
    obtain rfl : q = (k, cs) := by simpa using hq
    rfl
  · cases j with
    | zero =>
      obtain rfl : x = (false, [.ptr k 0]) := by simpa using hx.symm
      have h7 := h6 0 _ u rfl hv
      refine ⟨⟨h7.1.1, fun c y z hy hz => ?_⟩, h7.2⟩
      cases c with
      | zero =>
        obtain rfl : y = .ptr k 0 := by simpa using hy.symm
        have h8 := h7.1.2 0 (.ptr b 0) z rfl hz
        cases h8 with
        | ptr _ _ _ => exact Rep.ptr (β := fun _ => β b) k 0 (by simp)
      | succ c => simp at hy
    | succ j =>
      have hx' : rest[j]? = some x := by simpa using hx
      have h7 := h6 (j + 1) x u (by simpa using hx) hv
      exact ⟨h7.1.noptr (List.all_eq_true.1 hrest x (List.mem_of_getElem? hx')), h7.2⟩
  · rintro e w' ⟨v, o, F', bn, τ, he, ho, hret⟩
    have hn := hR o ho
    refine ⟨v, o, F', bn, τ, he, ho, ?_⟩
    exact {
      os := hret.os, tape := hret.tape, out := hret.out, size := hret.size
      block := fun j hj hne => hret.block j hj fun p hp => by
        have := hne (b, cs) (by simp)
        exact this
      len := by simpa using hret.len
      mem := fun j p ds hp hd => by
        cases j with
        | zero =>
          obtain rfl : p = (b, cs) := by simpa using hp.symm
          obtain ⟨hc, arr', ty', h7, h8⟩ := hret.mem 0 (k, cs) ds rfl hd
          exact ⟨hc, arr', ty', h7, h8.noptr (List.all_eq_true.2 fun x hx => AV.nop_of_clean (hc x hx))⟩
        | succ j => simp at hp
      F1 := hret.F1, F2 := hret.F2, F3 := hret.F3
      new := fun ds hd => by
        obtain ⟨hc, h7, h8, arr', ty', h9, h10⟩ := hret.new ds hd
        exact ⟨hc, h7, h8, arr', ty', h9, h10.noptr (List.all_eq_true.2 fun x hx => AV.nop_of_clean (hc x hx))⟩
      tk := hret.tk, tok := hret.tok, tin := hret.tin
      res := by
        have hres := hret.res
        cases hq : o.res with
        | no => trivial
        | pv p =>
          rw [hq] at hres hn
          exact ⟨⟨hres.1.1, fun j x u hx hu => ⟨(hres.1.2 j x u hx hu).1.noptr (List.all_eq_true.1 hn x (List.mem_of_getElem? hx)), (hres.1.2 j x u hx hu).2⟩⟩, hres.2⟩
        | tup ps =>
          rw [hq] at hres hn
          obtain ⟨arr', h7, h8, h9⟩ := hres
          refine ⟨arr', h7, h8, fun i x u hx hu => ?_⟩
          have h10 := h9 i x u hx hu
          have hn' := List.all_eq_true.1 hn x (List.mem_of_getElem? hx)
          exact ⟨⟨h10.1.1, fun j y z hy hz => ⟨(h10.1.2 j y z hy hz).1.noptr (List.all_eq_true.1 hn' y (List.mem_of_getElem? hy)), (h10.1.2 j y z hy hz).2⟩⟩, h10.2⟩ }
end Go.Proofs.Ytpeejmolbmhjjaa.Sx
