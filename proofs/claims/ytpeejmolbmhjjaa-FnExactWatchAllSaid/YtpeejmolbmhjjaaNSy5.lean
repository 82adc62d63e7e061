/- The machine does what the reading says: operations that make nothing new; there is no condition beyond those each statement names. -/
import Derived.Test.YtpeejmolbmhjjaaNSy4
import Derived.Laws.StructEq
import Derived.Laws.BytesString
namespace Go.Proofs.Ytpeejmolbmhjjaa.Sx
set_option linter.unusedSimpArgs false
set_option linter.unusedVariables false
open Go
def dflt : TI := { ok := false, agg := false, sz := 0, byt := 0, fl := [], el := 0, sl := false, bl := false, st := false, eqs := false, ik := none, zero := [] }
section
variable {P : Program} {T : TT}
theorem ti_or (hT : TabOk P T) (t : Nat) : ti T t = tiOf P t ∨ ti T t = dflt := by
  unfold ti
  cases h : lk T t with
  | none => exact .inr rfl
  | some i => exact .inl (hT t i h)
theorem ti_ok (hT : TabOk P T) {t : Nat} (h : (ti T t).ok = true) : ti T t = tiOf P t := (ti_or hT t).resolve_right fun e => by rw [e] at h; cases h
theorem ti_sl (hT : TabOk P T) {t : Nat} (h : (ti T t).sl = true) : P.underlying t = some (.slice (ti T t).el) := by
  have e := (ti_or hT t).resolve_right fun e => by rw [e] at h; cases h
  rw [e] at h ⊢
  simp only [tiOf, elOf] at h ⊢
  split at h <;> simp_all
theorem ti_sz (hT : TabOk P T) {t : Nat} (h : 1 ≤ (ti T t).sz) : ti T t = tiOf P t := (ti_or hT t).resolve_right fun e => by rw [e] at h; exact absurd h (by decide)
theorem ti_info (hT : TabOk P T) {t : Nat} (h : (ti T t).ok = true) : ∃ i z, P.info? t = some i ∧ i.zero = some z ∧ i.size = (ti T t).sz ∧ i.bytes = (ti T t).byt ∧
    z.cells.toList.length = (ti T t).sz ∧ (∀ u ∈ z.cells.toList, u.oneCell' = true) ∧ 0 < (ti T t).sz ∧ ((ti T t).agg = true ∨ (ti T t).sz = 1) ∧
    (ti T t).zero = (z.cells.toList.zip (cellTys P 6 t ++ List.replicate (ti T t).sz 0)).map (fun x => constA (elOf P x.2) x.1) ∧ P.cellsOf t = (ti T t).sz := by
  have e := ti_ok hT h
  rw [e] at h ⊢
  simp only [tiOf] at h ⊢
  cases hi : P.info? t with
  | none => simp [hi] at h
  | some i =>
    cases hz : i.zero with
    | none => simp [hi, hz] at h
    | some z =>
      simp only [hi, hz, Option.bind_some, Option.isSome_some, zeroOf, Program.cellsOf, Option.map_some, Option.getD_some, Bool.true_and, Bool.and_eq_true] at h
      refine ⟨i, z, rfl, hz, ?_, ?_, ?_, ?_, ?_, ?_, ?_, ?_⟩
      · simp [Program.cellsOf, hi]
      · simp [Program.bytesOf, hi]
      · have := Nat.eq_of_beq_eq_true h.1.1.1.2
        simpa [Program.cellsOf, hi] using this
      · exact List.all_eq_true.1 h.1.1.2
      · have := h.1.2
        simp [Program.cellsOf, hi, Nat.blt] at this ⊢; omega
      · have := h.2
        simp only [Bool.or_eq_true] at this
        rcases this with h1 | h1
        · exact .inl h1
        · refine .inr ?_
          have := Nat.eq_of_beq_eq_true h1
          simpa [Program.cellsOf, hi] using this
      · simp [zeroOf, hi, hz]
      · first | rfl | trivial | simp [Program.cellsOf, hi]
theorem run_isAgg (hT : TabOk P T) {t : Nat} (h : (ti T t).ok = true) (w : World) : (isAgg t).run P w = .ok (ti T t).agg w := by
  have e := ti_ok hT h
  rw [e] at h ⊢
  simp only [tiOf, Bool.and_eq_true] at h ⊢
  have hs := h.1.1.1.1.2
  unfold isAgg isAg
  cases hu : P.underlying t with
  | none => rw [hu] at hs; cases hs
  | some d => simp only [Sem.run_bind, run_underlying hu, Result.andThen_ok]; cases d <;> rfl
end
section
variable {P : Program} {T : TT} {G : Gd} {f : FS} {C : Cx} {a : Act} {w : World}
theorem constA_ok (h : Rel P G f C a w) (e : TypeId) (v : Value) (hv : v.oneCell' = true) : RepA P C f w (constA e v) v := by
  unfold constA
  split
  · exact ⟨.b _, trivial⟩
  · exact ⟨.i _ _, trivial⟩
  · exact ⟨.s _, trivial⟩
  · refine ⟨.nil _ _ _, .inr ⟨h.one.2.2, fun c hc => ?_⟩⟩
    rw [h.one.1] at hc
    obtain rfl := Option.some.inj hc
    exact ⟨Nat.le_refl _, fun _ => .inl rfl⟩
  · exact ⟨.nilp, trivial⟩
  · exact ⟨.nul _ hv, trivial⟩
theorem evo_ok (h : Rel P G f C a w) (e : TypeId) (x : Operand) : RepT (RepA P C f w) (evo f.env e x) (a.eval x) := by
  cases x with
  | tmp t => exact h.env t
  | global g => trivial
  | func g => exact RepP.one rfl ⟨.fn g, trivial⟩
  | const v =>
    cases v <;> first
      | trivial
      | exact RepP.one rfl (constA_ok h e _ rfl)
theorem inv_b {x : Bool} {v : Value} (h : RepT (RepA P C f w) (.pv (false, [.b x])) v) : v = .bool x := by
  have h1 : Rep P C.F C.β f.ub w (.b x) v := (RepP.one_inv h).2.1
  cases h1; rfl
theorem inv_fn {g : FuncId} {v : Value} (h : RepT (RepA P C f w) (.pv (false, [.fn g])) v) : v = .func (.func g) #[] #[] := by
  have h1 : Rep P C.F C.β f.ub w (.fn g) v := (RepP.one_inv h).2.1
  cases h1; rfl
theorem inv_i {k : IntKind} {n : Int} {v : Value} (h : RepT (RepA P C f w) (.pv (false, [.i k n])) v) : v = .int k n := by
  have h1 : Rep P C.F C.β f.ub w (.i k n) v := (RepP.one_inv h).2.1
  cases h1; rfl
theorem inv_s {x : ByteArray} {v : Value} (h : RepT (RepA P C f w) (.pv (false, [.s x])) v) : v = .string x := by
  have h1 : Rep P C.F C.β f.ub w (.s x) v := (RepP.one_inv h).2.1
  cases h1; rfl
theorem inv_ptr {b o : Nat} {v : Value} (h : RepT (RepA P C f w) (.pv (false, [.ptr b o])) v) : v = .pointer (some ⟨C.β b, o, none⟩) ∧ f.ub b = true := by
  have h1 : Rep P C.F C.β f.ub w (.ptr b o) v := (RepP.one_inv h).2.1
  cases h1 with | ptr _ _ hu => exact ⟨rfl, hu⟩
theorem inv_eptr {cs : List AV} {v : Value} (h : RepT (RepA P C f w) (.pv (false, [.eptr cs])) v) : ∃ (blk off : Nat) (vals : Nat → Value), v = .pointer (some ⟨blk, off, none⟩) ∧
    (∀ (c : Nat) (x : AV), cs[c]? = some x → x.clean = true ∧ w.cell? ⟨blk, off + c, none⟩ = some (vals c) ∧ ¬ C.F blk (off + c)) ∧ ∀ (c : Nat) (x : AV), cs[c]? = some x → Rep P C.F C.β f.ub w x (vals c) := by
  have h1 : Rep P C.F C.β f.ub w (.eptr cs) v := (RepP.one_inv h).2.1
  cases h1 with | eptr _ blk off vals h2 h3 => exact ⟨blk, off, vals, rfl, h2, h3⟩
theorem inv_lst {t ver : Nat} {e : TypeId} {es : List (List AV)} {v : Value} (h : RepT (RepA P C f w) (.pv (false, [.lst t ver e es])) v) :
    RepA P C f w (.lst t ver e es) v ∧ ((v = .slice none 0 0 ∧ es = []) ∨ (∃ blk off cap, v = .slice (some ⟨blk, off, none⟩) es.length cap ∧ es.length ≤ cap) ∨ ∃ ad cap, v = .slice (some ad) 0 cap ∧ es = []) := by
  have h0 := (RepP.one_inv h).2
  refine ⟨h0, ?_⟩
  have h1 := h0.1
  cases h1 with
  | nil => exact .inl ⟨rfl, rfl⟩
  | emp _ _ _ ad cap => exact .inr (.inr ⟨ad, cap, rfl, rfl⟩)
  | lst _ _ _ _ blk off cap vals hcap => exact .inr (.inl ⟨blk, off, cap, rfl, hcap⟩)
theorem isB_inv {x : TV} {K : Bool → Prop} (h : isB x K) : ∃ b, x = .pv (false, [.b b]) ∧ K b := by
  unfold isB at h; split at h
  · exact ⟨_, rfl, h⟩
  · exact h.elim
theorem isI_inv {x : TV} {K : IntKind → Int → Prop} (h : isI x K) : ∃ k n, x = .pv (false, [.i k n]) ∧ K k n := by
  unfold isI at h; split at h
  · exact ⟨_, _, rfl, h⟩
  · exact h.elim
theorem isL_inv {x : TV} {K : Nat → Nat → TypeId → List (List AV) → Prop} (h : isL x K) : ∃ t v e es, x = .pv (false, [.lst t v e es]) ∧ K t v e es := by
  unfold isL at h; split at h
  · exact ⟨_, _, _, _, rfl, h⟩
  · exact h.elim
theorem isLR_inv {x : TV} {K : Nat → Nat → TypeId → List (List AV) → Prop} {K2 : Nat → Nat → TypeId → Prop} (h : isLR x K K2) : (∃ t v e es, x = .pv (false, [.lst t v e es]) ∧ K t v e es) ∨ ∃ b n e, x = .pv (false, [.row b n e]) ∧ K2 b n e := by
  unfold isLR at h; split at h
  · exact .inl ⟨_, _, _, _, rfl, h⟩
  · exact .inr ⟨_, _, _, rfl, h⟩
  · exact h.elim
theorem inv_row {b n : Nat} {e : TypeId} {v : Value} (h : RepT (RepA P C f w) (.pv (false, [.row b n e])) v) : v = .slice (some ⟨C.β b, 0, none⟩) n n ∧ f.ub b = true := by
  have h1 : Rep P C.F C.β f.ub w (.row b n e) v := (RepP.one_inv h).2.1
  cases h1 with | row _ _ _ hu => exact ⟨rfl, hu⟩
theorem repI {k : IntKind} {n : Int} : RepT (RepA P C f w) (.one (.i k n)) (.int k n) := RepP.one rfl ⟨.i _ _, trivial⟩
theorem repB {x : Bool} : RepT (RepA P C f w) (.one (.b x)) (.bool x) := RepP.one rfl ⟨.b _, trivial⟩
theorem repS {x : ByteArray} : RepT (RepA P C f w) (.one (.s x)) (.string x) := RepP.one rfl ⟨.s _, trivial⟩

/-- What holds behind an operation. -/
def Post (P : Program) (G : Gd) (f : FS) (dst : Option Tmp) (K : Dl → Prop) : Act → World → Prop := fun a' w' => ∃ d C', K d ∧ Rel P G (f.app dst d) C' a' w'
theorem app_val (f : FS) (dst : Option Tmp) (x : TV) : f.app dst { v := x } = f.setE dst x := by
  unfold FS.app FS.setE
  congr 1
  cases dst with
  | none => rfl
  | some d =>
    funext k
    simp only [cond_eq_ite]
    by_cases h : k = d
    · subst h; simp
    · simp [h]
theorem post_val (h : Rel P G f C a w) {dst : Option Tmp} (hd : ∀ d, dst = some d → d < G.n) {K : Dl → Prop} {x : TV} {v : Value} (hK : K { v := x }) (hv : RepT (RepA P C f w) x v) :
    Post P G f dst K (a.put dst v) w := ⟨_, C, hK, by rw [app_val]; exact h.put dst hd x v hv⟩
theorem wp_val {o : Oper} {N : Act → World → Prop} {Q : Exit → Act → World → Prop} {w' : World} {v : Value} (hr : (execOp a.eval o).run P w = .ok (.value v) w') (h : N (a.put o.dst v) w') : o.wp P a w N Q := by
  unfold Oper.wp; rw [hr]; exact h
theorem wp_skp {o : Oper} {N : Act → World → Prop} {Q : Exit → Act → World → Prop} {w' : World} (hr : (execOp a.eval o).run P w = .ok .skip w') (h : N (a.put o.dst undef) w') : o.wp P a w N Q := by
  unfold Oper.wp; rw [hr]; exact h
variable {o : Oper} {Q : Exit → Act → World → Prop} {K : Dl → Prop}
theorem s_move (h : Rel P G f C a w) (hd : ∀ d, o.dst = some d → d < G.n) (x : Operand) (e : TypeId) (ho : o.op = .move x ∨ o.op = .assign x) (hK : K { v := evo f.env e x }) : o.wp P a w (Post P G f o.dst K) Q := by
  refine wp_val (v := a.eval x) ?_ (post_val h hd hK (evo_ok h e x))
  unfold execOp
  rcases ho with ho | ho <;> simp only [ho] <;> rfl
theorem s_pick (h : Rel P G f C a w) (hd : ∀ d, o.dst = some d → d < G.n) (c x y : Operand) (e : TypeId) (ho : o.op = .pick c x y)
    (hK : isB (evo f.env 0 c) fun b => match b with | true => K { v := evo f.env e x } | false => K { v := evo f.env e y }) : o.wp P a w (Post P G f o.dst K) Q := by
  obtain ⟨b, hb, hK⟩ := isB_inv hK
  have hc := evo_ok h 0 c
  rw [hb] at hc
  have hc := inv_b hc
  cases b with
  | true =>
    refine wp_val (v := a.eval x) ?_ (post_val h hd hK (evo_ok h e x))
    unfold execOp; simp [ho, hc, asBool]
  | false =>
    refine wp_val (v := a.eval y) ?_ (post_val h hd hK (evo_ok h e y))
    unfold execOp; simp [ho, hc, asBool]
theorem run_bin_int (op : BinOp) (t : TypeId) (k : IntKind) (x y : Int) (hK : evBin op k x y K) :
    ∃ u, (binOp op t (.int k x) (.int k y)).run P w = .ok u w ∧ ∃ z, K { v := z } ∧ RepT (RepA P C f w) z u := by
  cases op <;> simp only [evBin] at hK
  case add => obtain ⟨r, rfl, hK⟩ := hK; exact ⟨_, (by first | (simp [binOp, Op.intArith]; done) | (simp [binOp, Op.intArith]; rfl)), _, hK, repI⟩
  case sub => obtain ⟨r, rfl, hK⟩ := hK; exact ⟨_, (by first | (simp [binOp, Op.intArith]; done) | (simp [binOp, Op.intArith]; rfl)), _, hK, repI⟩
  case mul => obtain ⟨r, rfl, hK⟩ := hK; exact ⟨_, (by first | (simp [binOp, Op.intArith]; done) | (simp [binOp, Op.intArith]; rfl)), _, hK, repI⟩
  case quo => obtain ⟨h0, r, rfl, hK⟩ := hK; exact ⟨_, (by first | (simp [binOp, Op.intDiv, h0]; done) | (simp [binOp, Op.intDiv, h0]; rfl)), _, hK, repI⟩
  case rem => obtain ⟨h0, r, rfl, hK⟩ := hK; exact ⟨_, (by first | (simp [binOp, Op.intDiv, h0]; done) | (simp [binOp, Op.intDiv, h0]; rfl)), _, hK, repI⟩
  case and => obtain ⟨r, rfl, hK⟩ := hK; exact ⟨_, by simp only [binOp, ne_eq, not_true_eq_false, if_false, Op.intBits]; rfl, _, hK, repI⟩
  case or => obtain ⟨r, rfl, hK⟩ := hK; exact ⟨_, by simp only [binOp, ne_eq, not_true_eq_false, if_false, Op.intBits]; rfl, _, hK, repI⟩
  case xor => obtain ⟨r, rfl, hK⟩ := hK; exact ⟨_, by simp only [binOp, ne_eq, not_true_eq_false, if_false, Op.intBits]; rfl, _, hK, repI⟩
  case andNot => obtain ⟨r, rfl, hK⟩ := hK; exact ⟨_, by simp only [binOp, ne_eq, not_true_eq_false, if_false, Op.intBits]; rfl, _, hK, repI⟩
  case shl => obtain ⟨h0, r, rfl, hK⟩ := hK; exact ⟨_, (by first | (simp [binOp, Op.shift, show ¬ y < 0 by omega]; done) | (simp [binOp, Op.shift, show ¬ y < 0 by omega]; rfl)), _, hK, repI⟩
  case shr => obtain ⟨h0, r, rfl, hK⟩ := hK; exact ⟨_, (by first | (simp [binOp, Op.shift, show ¬ y < 0 by omega]; done) | (simp [binOp, Op.shift, show ¬ y < 0 by omega]; rfl)), _, hK, repI⟩
  case eql => exact ⟨_, (by first | (simp [binOp, Op.intCmp]; done) | (simp [binOp, Op.intCmp]; rfl)), _, hK, repB⟩
  case neq => exact ⟨_, (by first | (simp [binOp, Op.intCmp]; done) | (simp [binOp, Op.intCmp]; rfl)), _, hK, repB⟩
  case lss => exact ⟨_, (by first | (simp [binOp, Op.intCmp]; done) | (simp [binOp, Op.intCmp]; rfl)), _, hK, repB⟩
  case leq => exact ⟨_, (by first | (simp [binOp, Op.intCmp]; done) | (simp [binOp, Op.intCmp]; rfl)), _, hK, repB⟩
  case gtr => exact ⟨_, (by first | (simp [binOp, Op.intCmp]; done) | (simp [binOp, Op.intCmp]; rfl)), _, hK, repB⟩
  case geq => exact ⟨_, (by first | (simp [binOp, Op.intCmp]; done) | (simp [binOp, Op.intCmp]; rfl)), _, hK, repB⟩
  all_goals exact hK.elim
end
end Go.Proofs.Ytpeejmolbmhjjaa.Sx
