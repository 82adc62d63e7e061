/- The machine does what the reading says: comparisons, reads, addresses, cuts; there is no condition beyond those each statement names. -/
import Derived.Test.YtpeejmolbmhjjaaNSy5
namespace Go.Proofs.Ytpeejmolbmhjjaa.Sx
set_option linter.unusedSimpArgs false
set_option linter.unusedVariables false
open Go
section
variable {P : Program} {T : TT} {G : Gd} {f : FS} {C : Cx} {a : Act} {w : World} {o : Oper} {Q : Exit → Act → World → Prop} {K : Dl → Prop}
theorem eqI_ok (d : Nat) (x y : Array Value) : ∀ (fs : List Field) (cs ds : List AV) (K : Bool → Prop) (n : Nat),
    (∀ (j : Nat) (g : Field), fs[j]? = some g → g.name ≠ "_" ∧ g.offset = n + j ∧ ∃ k, P.underlying g.type = some (.int k)) → fs.length = cs.length →
    RepL (RepA P C f w) cs (x.toList.drop n) → RepL (RepA P C f w) ds (y.toList.drop n) → eqI cs ds K →
    ∃ r, (Op.eqFields (d + 1) x y fs).run P w = .ok r w ∧ K r
  | [], cs, ds, K, n, _, hl, h1, h2, hK => by
    have : cs = [] := List.eq_nil_of_length_eq_zero (by simpa using hl.symm)
    subst this
    cases ds with
    | nil => exact ⟨true, by simp [Op.eqFields], hK⟩
    | cons y ys => exact hK.elim
  | g :: fs, cs, ds, K, n, hf, hl, h1, h2, hK => by
    cases cs with
    | nil => simp at hl
    | cons c cs =>
      cases ds with
      | nil => cases c <;> exact hK.elim
      | cons e ds =>
        cases c <;> try exact hK.elim
        cases e <;> try exact hK.elim
        rename_i k p k' q
        obtain ⟨rfl, hK⟩ := hK
        obtain ⟨u, us, hu, hu1, hu2⟩ := h1.cons_inv
        obtain ⟨v, vs, hv, hv1, hv2⟩ := h2.cons_inv
        have e1 : u = .int k p := by have := hu1.1; cases this; rfl
        have e2 : v = .int k q := by have := hv1.1; cases this; rfl
        subst e1; subst e2
        obtain ⟨g1, g2, kk, g3⟩ := hf 0 g rfl
        have hx : x[g.offset]? = some (.int k p) := by
          have : (x.toList.drop n)[0]? = some (Value.int k p) := by rw [hu]; rfl
          rw [g2]; simpa [List.getElem?_drop] using this
        have hy : y[g.offset]? = some (.int k q) := by
          have : (y.toList.drop n)[0]? = some (Value.int k q) := by rw [hv]; rfl
          rw [g2]; simpa [List.getElem?_drop] using this
        have ag : (isAgg g.type).run P w = .ok false w := by unfold isAgg; simp [run_underlying g3]
        have p1 : (part g.type x g.offset).run P w = .ok (.int k p) w := by simp [part, ag, hx]
        have p2 : (part g.type y g.offset).run P w = .ok (.int k q) w := by simp [part, ag, hy]
        have h1' : RepL (RepA P C f w) cs (x.toList.drop (n + 1)) := by
          have : us = x.toList.drop (n + 1) := by
            have := congrArg (List.drop 1) hu; simpa [List.drop_drop] using this.symm
          rw [← this]; exact hu2
        have h2' : RepL (RepA P C f w) ds (y.toList.drop (n + 1)) := by
          have : vs = y.toList.drop (n + 1) := by
            have := congrArg (List.drop 1) hv; simpa [List.drop_drop] using this.symm
          rw [← this]; exact hv2
        obtain ⟨r, hr, hKr⟩ := eqI_ok d x y fs cs ds _ (n + 1) (fun j g' hg => by
          obtain ⟨a1, a2, a3⟩ := hf (j + 1) g' (by simpa using hg)
          exact ⟨a1, by omega, a3⟩) (by simpa using hl) h1' h2' hK
        by_cases hpq : p = q
        · subst hpq
          refine ⟨r, ?_, by simpa using hKr⟩
          simp [Op.eqFields, g1, p1, p2, run_equalIn_int w d g.type k kk p p g3, hr]
        · refine ⟨false, ?_, by simpa [hpq] using hKr⟩
          simp [Op.eqFields, g1, p1, p2, run_equalIn_int w d g.type k kk p q g3, hpq]
theorem evEq_ok {op : BinOp} {r : Bool} (hK : evEq op K r) (t : TypeId) (x y : Value) (h1 : op = .eql → (binOp .eql t x y).run P w = .ok (.bool r) w) (h2 : op = .neq → (binOp .neq t x y).run P w = .ok (.bool !r) w) :
    ∃ u, (binOp op t x y).run P w = .ok u w ∧ ∃ z, K { v := z } ∧ RepT (RepA P C f w) z u := by
  cases op <;> simp only [evEq] at hK
  case eql => exact ⟨_, h1 rfl, _, hK, repB⟩
  case neq => exact ⟨_, h2 rfl, _, hK, repB⟩
  all_goals exact hK.elim
theorem ikEq_true {k k' : IntKind} {p : Prop} (h : bif ikEq k k' then p else False) : k = k' ∧ p := by cases k <;> cases k' <;> first | exact ⟨rfl, h⟩ | exact h.elim
theorem run_bin_sh (op : BinOp) (t : TypeId) (k k' : IntKind) (x y : Int) (hs : isSh op = true) (hK : evBin op k x y K) :
    ∃ u, (binOp op t (.int k x) (.int k' y)).run P w = .ok u w ∧ ∃ z, K { v := z } ∧ RepT (RepA P C f w) z u := by
  cases op <;> (try (cases hs; done)) <;> simp only [evBin] at hK
  case shl => obtain ⟨h0, r, rfl, hK⟩ := hK; exact ⟨_, (by first | (simp [binOp, Op.shift, show ¬ y < 0 by omega]; done) | (simp [binOp, Op.shift, show ¬ y < 0 by omega]; rfl)), _, hK, repI⟩
  case shr => obtain ⟨h0, r, rfl, hK⟩ := hK; exact ⟨_, (by first | (simp [binOp, Op.shift, show ¬ y < 0 by omega]; done) | (simp [binOp, Op.shift, show ¬ y < 0 by omega]; rfl)), _, hK, repI⟩
theorem s_bin (hT : TabOk P T) (h : Rel P G f C a w) (hd : ∀ d, o.dst = some d → d < G.n) (op : BinOp) (t ty : TypeId) (x y : Operand) (ho : o.op = .binOp op t x y ty)
    (hK : match evo f.env 0 x, evo f.env 0 y with
    | .pv (false, [.i k a]), .pv (false, [.i k' b]) => bif ikEq k k' || isSh op then evBin op k a b K else False
    | .pv (false, [.b a]), .pv (false, [.b b]) => bif (ti T t).bl then evEq op K (a == b) else False
    | .pv (false, [.s a]), .pv (false, [.s b]) => evEq op K (a.toList == b.toList)
    | .pv (true, cs), .pv (true, ds) => bif (ti T t).eqs && Nat.beq cs.length (ti T t).sz then eqI cs ds (evEq op K) else False
    | _, _ => False) : o.wp P a w (Post P G f o.dst K) Q := by
  have hx := evo_ok h 0 x
  have hy := evo_ok h 0 y
  have fin : ∀ u, (eqGuard op t x y (a.eval x) (a.eval y)).run P w = .ok () w → (binOp op t (a.eval x) (a.eval y)).run P w = .ok u w → (∃ z, K { v := z } ∧ RepT (RepA P C f w) z u) → o.wp P a w (Post P G f o.dst K) Q := by
    rintro u hg hr ⟨z, hz, hv⟩
    refine wp_val (v := u) ?_ (post_val h hd hz hv)
    unfold execOp; simp [ho, hg, hr]
  split at hK
  · rename_i k p k' q e1 e2
    rw [e1] at hx; rw [e2] at hy
    have hx := inv_i hx
    have hy := inv_i hy
    obtain ⟨u, hu, hz⟩ : ∃ u, (binOp op t (.int k p) (.int k' q)).run P w = .ok u w ∧ ∃ z, K { v := z } ∧ RepT (RepA P C f w) z u := by
      cases hb : ikEq k k' with
      | true =>
        obtain ⟨hke, _⟩ := ikEq_true (p := True) (by rw [hb]; trivial)
        subst hke
        rw [hb] at hK
        exact run_bin_int (P := P) (C := C) (f := f) (w := w) op t k p q hK
      | false =>
        rw [hb] at hK
        cases hs : isSh op with
        | true => rw [hs] at hK; exact run_bin_sh (P := P) (C := C) (f := f) (w := w) op t k k' p q hs hK
        | false => rw [hs] at hK; exact hK.elim
    refine fin u ?_ (by rw [hx, hy]; exact hu) hz
    rw [hx, hy]; cases op <;> simp [eqGuard]
  · rename_i p q e1 e2
    rw [e1] at hx; rw [e2] at hy
    have hx := inv_b hx
    have hy := inv_b hy
    cases hb : (ti T t).bl with
    | false => rw [hb] at hK; exact hK.elim
    | true =>
      rw [hb] at hK
      have hu : P.underlying t = some .bool := by
        have e := (ti_or hT t).resolve_right fun e => by rw [e] at hb; cases hb
        rw [e] at hb; simp only [tiOf] at hb
        split at hb <;> simp_all
      obtain ⟨u, hu, hz⟩ := evEq_ok (P := P) (C := C) (f := f) (w := w) hK t (.bool p) (.bool q) (fun _ => by simp [binOp, Op.equal, Op.maxDepth, run_equalIn_bool' w 9999 t p q hu])
        (fun _ => by simp [binOp, Op.equal, Op.maxDepth, run_equalIn_bool' w 9999 t p q hu])
      refine fin u ?_ (by rw [hx, hy]; exact hu) hz
      rw [hx, hy]; cases op <;> simp [eqGuard]
  · rename_i p q e1 e2
    rw [e1] at hx; rw [e2] at hy
    have hx := inv_s hx
    have hy := inv_s hy
    obtain ⟨u, hu, hz⟩ := evEq_ok (P := P) (C := C) (f := f) (w := w) hK t (.string p) (.string q) (fun _ => by simp [binOp, Op.stringOp]) (fun _ => by simp [binOp, Op.stringOp])
    refine fin u ?_ (by rw [hx, hy]; exact hu) hz
    rw [hx, hy]; cases op <;> simp [eqGuard]
  · rename_i cs ds e1 e2
    rw [e1] at hx; rw [e2] at hy
    obtain ⟨xs, hx, rx⟩ := RepP.agg_inv hx
    obtain ⟨ys, hy, ry⟩ := RepP.agg_inv hy
    cases hb : ((ti T t).eqs && Nat.beq cs.length (ti T t).sz) with
    | false => rw [hb] at hK; exact hK.elim
    | true =>
      rw [hb] at hK
      simp only [Bool.and_eq_true] at hb
      obtain ⟨hb, hcl⟩ := hb
      have hcl := Nat.eq_of_beq_eq_true hcl
      have e := (ti_or hT t).resolve_right fun e => by rw [e] at hb; cases hb
      rw [e] at hb hcl; simp only [tiOf] at hb hcl
      split at hb
      · rename_i fs hfs
        simp only [Bool.and_eq_true, Bool.not_eq_true'] at hb
        obtain ⟨⟨⟨b1, b2⟩, b3⟩, b4⟩ := hb
        have b4 := Nat.eq_of_beq_eq_true b4
        have hfo : P.fieldsOf t = fs := by simp [Program.fieldsOf, hfs]
        have hall := List.all_eq_true.1 b3
        have hflds : ∀ (j : Nat) (g : Field), fs.toList[j]? = some g → g.name ≠ "_" ∧ g.offset = 0 + j ∧ ∃ k, P.underlying g.type = some (.int k) := fun j g hg => by
          have := hall (g, j) (by rw [List.mem_zipIdx_iff_getElem?]; exact hg)
          simp only [Bool.and_eq_true, bne_iff_ne, ne_eq] at this
          refine ⟨this.1.1, by have := Nat.eq_of_beq_eq_true this.1.2; omega, ?_⟩
          have h3 := this.2
          split at h3
          · rename_i k hk; exact ⟨k, hk⟩
          · cases h3
        obtain ⟨r, hr, hKr⟩ := eqI_ok (P := P) (C := C) (f := f) (w := w) 9998 xs ys fs.toList cs ds (evEq op K) 0 hflds (by simp [b4, hcl]) (by simpa using rx) (by simpa using ry) hK
        have hequal : (Op.equalIn 10000 t (.agg xs) (.agg ys)).run P w = .ok r w := by
          rw [run_equalIn_agg w 9999 t xs ys (by rw [hfo]; exact hfs) b1, hfo]; exact hr
        obtain ⟨u, hu, hz⟩ := evEq_ok (P := P) (C := C) (f := f) (w := w) hKr t (.agg xs) (.agg ys) (fun _ => by rw [run_eql_struct, hequal]; rfl) (fun _ => by rw [run_neq_struct, hequal]; rfl)
        refine fin u ?_ (by rw [hx, hy]; exact hu) hz
        rw [hx, hy]; exact run_eqGuard_agg w op t x y xs ys b2
      · cases hb
  · exact hK.elim
theorem s_not (h : Rel P G f C a w) (hd : ∀ d, o.dst = some d → d < G.n) (t : TypeId) (x : Operand) (ho : o.op = .unOp .not t x) (hK : isB (evo f.env 0 x) fun b => one K (.b !b)) : o.wp P a w (Post P G f o.dst K) Q := by
  obtain ⟨b, hb, hK⟩ := isB_inv hK
  have hc := evo_ok h 0 x
  rw [hb] at hc
  have hc := inv_b hc
  refine wp_val (v := .bool !b) ?_ (post_val h hd hK repB)
  unfold execOp; simp [ho, hc, Op.unary]
theorem s_neg (h : Rel P G f C a w) (hd : ∀ d, o.dst = some d → d < G.n) (t : TypeId) (x : Operand) (ho : o.op = .unOp .neg t x)
    (hK : isI (evo f.env 0 x) fun k n => ∃ r, k.wrap (0 - n) = r ∧ one K (.i k r)) : o.wp P a w (Post P G f o.dst K) Q := by
  obtain ⟨k, n, hb, r, rfl, hK⟩ := isI_inv hK
  have hc := evo_ok h 0 x
  rw [hb] at hc
  have hc := inv_i hc
  refine wp_val (v := .int k (k.wrap (0 - n))) ?_ (post_val h hd hK repI)
  unfold execOp; simp [ho, hc, Op.unary, Op.intArith]
theorem add_flat (blk off n : Nat) : (⟨blk, off, none⟩ : Addr).add n = ⟨blk, off + n, none⟩ := by unfold Addr.add; split <;> simp_all
theorem run_sizeOf {i : TypeInfo} {t : TypeId} (hi : P.info? t = some i) : (sizeOf t).run P w = .ok i.size w := by simp [sizeOf, typeInfo, hi]
/-- A variable of a type, loaded from cells that are known. -/
theorem run_loadVar (hT : TabOk P T) {t : TypeId} (hok : (ti T t).ok = true) (blk off : Nat) (cs : List AV) (vs : List Value) (hl : cs.length = (ti T t).sz) (hr : RepL (RepA P C f w) cs vs)
    (hc : ∀ (j : Nat) (u : Value), vs[j]? = some u → w.cell? ⟨blk, off + j, none⟩ = some u) :
    ∃ v, (loadVar t ⟨blk, off, none⟩).run P w = .ok v w ∧ RepT (RepA P C f w) (.pv ((ti T t).agg, cs)) v := by
  obtain ⟨i, z, hi, hz, hsz, hby, hzl, hz1, hpos, hag, _, _⟩ := ti_info hT hok
  have hvl : vs.length = i.size := by rw [← hr.1, hl, hsz]
  cases hb : (ti T t).agg with
  | true =>
    have hload := run_loadCells_list (P := P) w ⟨blk, off, none⟩ vs (fun j u hj => by rw [add_flat]; exact hc j u hj)
    rw [hvl] at hload
    refine ⟨.agg vs.toArray, ?_, RepP.agg (by simpa using hr)⟩
    unfold loadVar
    simp only [Sem.run_bind, run_isAgg hT hok, hb, Result.andThen_ok, if_true, run_sizeOf hi, hload, Sem.run_pure]
  | false =>
    have hone : (ti T t).sz = 1 := hag.resolve_left (by rw [hb]; decide)
    rw [hone] at hl
    obtain ⟨x, rfl⟩ := List.length_eq_one_iff.1 hl
    obtain ⟨u, us, rfl, h1, h2⟩ := hr.cons_inv
    obtain rfl : us = [] := List.eq_nil_of_length_eq_zero (by simpa using h2.1.symm)
    refine ⟨u, ?_, RepP.one h1.1.oneCell h1⟩
    have := hc 0 u rfl
    unfold loadVar
    simp only [Sem.run_bind, run_isAgg hT hok, hb, Result.andThen_ok, Bool.false_eq_true, if_false, run_load]
    simp only [Nat.add_zero] at this
    rw [this]
end
end Go.Proofs.Ytpeejmolbmhjjaa.Sx
