/- The machine does what the reading says: new variables, parts laid together, stores; there is no condition beyond those each statement names. -/
import Derived.Test.YtpeejmolbmhjjaaNSy8
namespace Go.Proofs.Ytpeejmolbmhjjaa.Sx
set_option linter.unusedSimpArgs false
set_option linter.unusedVariables false
open Go
section
variable {P : Program} {T : TT} {G : Gd} {f : FS} {C : Cx} {a : Act} {w : World} {o : Oper} {Q : Exit → Act → World → Prop} {K : Dl → Prop} {ok : Nat → Bool}
theorem app_box (f : FS) (dst : Option Tmp) (x : TV) (b : Nat) (cs : List AV) : f.app dst { v := x, mm := [(b, cs)], nb := [b] } =
    FS.setE { f with mem := fun k => if k = b then some cs else f.mem k, ub := fun k => Nat.beq k b || f.ub k } dst x := by
  have h := app_val { f with mem := fun k => if k = b then some cs else f.mem k, ub := fun k => Nat.beq k b || f.ub k } dst x
  rw [← h]
  unfold FS.app
  congr 1
  · funext k
    simp only [lk, cond_eq_ite]
    by_cases hk : k = b
    · subst hk; simp
    · simp [hk, Ne.symm hk]
  · funext k; simp
theorem app_sto (f : FS) (dst : Option Tmp) (x : TV) (b : Nat) (cs : List AV) : f.app dst { v := x, mm := [(b, cs)] } = FS.setE { f with mem := fun k => if k = b then some cs else f.mem k } dst x := by
  have h := app_val { f with mem := fun k => if k = b then some cs else f.mem k } dst x
  rw [← h]
  unfold FS.app
  congr 1
  funext k
  simp only [lk, cond_eq_ite]
  by_cases hk : k = b
  · subst hk; simp
  · simp [hk, Ne.symm hk]
theorem app_lin (f : FS) (dst : Option Tmp) (x : TV) (t v : Nat) : f.app dst { v := x, cu := [(t, v)] } =
    FS.setE { f with cur := fun k => if k = t then some v else f.cur k, ut := fun k => Nat.beq k t || f.ut k } dst x := by
  have h := app_val { f with cur := fun k => if k = t then some v else f.cur k, ut := fun k => Nat.beq k t || f.ut k } dst x
  rw [← h]
  unfold FS.app
  congr 1
  · funext k
    simp only [lk, cond_eq_ite]
    by_cases hk : k = t
    · subst hk; simp
    · simp [hk, Ne.symm hk]
  · funext k; simp
theorem zero_ok (hT : TabOk P T) (h : Rel P G f C a w) {t : TypeId} (hok : (ti T t).ok = true) : ∃ i z, P.info? t = some i ∧ i.zero = some z ∧ i.size = (ti T t).sz ∧ i.bytes = (ti T t).byt ∧ 0 < (ti T t).sz ∧ P.cellsOf t = (ti T t).sz ∧
    z.cells.toList.length = (ti T t).sz ∧ RepL (RepA P C f w) (ti T t).zero z.cells.toList := by
  obtain ⟨i, z, hi, hz, hsz, hby, hzl, hz1, hpos, hag, hzero, hce⟩ := ti_info hT hok
  refine ⟨i, z, hi, hz, hsz, hby, hpos, hce, hzl, ?_⟩
  rw [hzero]
  have hlen : (z.cells.toList.zip (cellTys P 6 t ++ List.replicate (ti T t).sz 0)).length = z.cells.toList.length := by simp at hzl ⊢; omega
  refine ⟨by rw [List.length_map, hlen], fun j x u hx hu => ?_⟩
  rw [List.getElem?_map] at hx
  cases hq : (z.cells.toList.zip (cellTys P 6 t ++ List.replicate (ti T t).sz 0))[j]? with
  | none => rw [hq] at hx; cases hx
  | some p =>
    rw [hq] at hx
    obtain rfl := Option.some.inj hx
    have hp := (List.getElem?_zip_eq_some.1 hq).1
    rw [hu] at hp
    obtain rfl := Option.some.inj hp
    exact constA_ok h _ _ (hz1 _ (List.mem_of_getElem? hu))
theorem dst_lt (h : Rel P G f C a w) {dst : Option Tmp} (hd : ∀ d, dst = some d → d < G.n) : dst.getD 0 < K0 := by
  cases dst with
  | none => show 0 < K0; decide
  | some d => exact Nat.lt_of_lt_of_le (hd d rfl) h.nle
/-- A new variable, with these cells. -/
theorem post_box (h : Rel P G f C a w) {dst : Option Tmp} (hd : ∀ d, dst = some d → d < G.n) {b : Nat} (hbK : b < K0) (hu : f.ub b = false) (arr : Array Value) (ty : TypeId) (cs : List AV) (hr : RepL (RepA P C f w) cs arr.toList)
    (hK : K { v := .one (.ptr b 0), mm := [(b, cs)], nb := [b] }) : Post P G f dst K (a.put dst (.pointer (some ⟨w.heap.size, 0, none⟩))) (w.alloc (.cells arr ty)) := by
  refine ⟨_, { C with F := fun k o => C.F k o ∨ k = w.heap.size, β := fun k => if k = b then w.heap.size else C.β k }, hK, ?_⟩
  rw [app_box]
  refine (h.box b hbK hu arr ty cs hr).put dst hd _ _ (RepP.one rfl ⟨?_, trivial⟩)
  have hU : (fun k => Nat.beq k b || f.ub k) b = true := by simp
  have h0 := Rep.ptr (P := P) (F := fun k o => C.F k o ∨ k = w.heap.size) (U := fun k => Nat.beq k b || f.ub k) (β := fun k => if k = b then w.heap.size else C.β k) (w := w.alloc (.cells arr ty)) b 0 hU
  simp only [if_true] at h0
  exact h0
theorem s_alloc (hT : TabOk P T) (h : Rel P G f C a w) (hd : ∀ d, o.dst = some d → d < G.n) (t : TypeId) (ho : o.op = .alloc t)
    (hK : f.ub (o.dst.getD 0) = false ∧ bif (ti T t).ok then K { v := .one (.ptr (o.dst.getD 0) 0), mm := [(o.dst.getD 0, (ti T t).zero)], nb := [o.dst.getD 0] } else False) : o.wp P a w (Post P G f o.dst K) Q := by
  obtain ⟨hu, hK⟩ := hK
  obtain ⟨hok, hK⟩ := bif_true hK
  obtain ⟨i, z, hi, hz, hsz, hby, hpos, hce, hzl, hr⟩ := zero_ok hT h hok
  refine wp_val (v := .pointer (some ⟨w.heap.size, 0, none⟩)) (w' := w.alloc (.cells z.cells t)) ?_ (post_box h hd (dst_lt h hd) hu _ _ _ hr hK)
  unfold execOp
  simp [ho, Instr.alloc, zeroValue, typeInfo, hi, hz, newVar, newRow]
theorem s_box (h : Rel P G f C a w) (hd : ∀ d, o.dst = some d → d < G.n) (t : TypeId) (x : Operand) (e : TypeId) (ho : o.op = .box t x)
    (hK : match evo f.env e x with
    | .pv p => f.ub (o.dst.getD 0) = false ∧ K { v := .one (.ptr (o.dst.getD 0) 0), mm := [(o.dst.getD 0, p.2)], nb := [o.dst.getD 0] }
    | _ => False) : o.wp P a w (Post P G f o.dst K) Q := by
  have hx := evo_ok h e x
  split at hK
  · rename_i p e1
    rw [e1] at hx
    obtain ⟨hu, hK⟩ := hK
    refine wp_val (v := .pointer (some ⟨w.heap.size, 0, none⟩)) (w' := w.alloc (.cells (a.eval x).cells t)) ?_ (post_box h hd (dst_lt h hd) hu _ _ _ hx.1 hK)
    unfold execOp
    simp [ho, Instr.box, newVar, newRow]
  · exact hK.elim
theorem s_store (hT : TabOk P T) (h : Rel P G f C a w) (hd : ∀ d, o.dst = some d → d < G.n) (t : TypeId) (x y : Operand) (e : TypeId) (ho : o.op = .store t x y)
    (hK : match evo f.env 0 x, evo f.env e y with
    | .pv (false, [.ptr b off]), .pv p => match f.mem b with
      | some cs => ok b = true ∧ bif Nat.beq p.2.length (ti T t).sz && Nat.ble (off + p.2.length) cs.length && (ti T t).ok then K { v := .no, mm := [(b, lay cs off p.2)] } else False
      | none => False
    | _, _ => False) : o.wp P a w (Post P G f o.dst K) Q := by
  have hx := evo_ok h 0 x
  have hy := evo_ok h e y
  split at hK
  · rename_i b off p e1 e2
    rw [e1] at hx; rw [e2] at hy
    obtain ⟨hv, hub⟩ := inv_ptr hx
    split at hK
    · rename_i cs hm
      obtain ⟨_, hK⟩ := hK
      obtain ⟨hb, hK⟩ := bif_true hK
      simp only [Bool.and_eq_true] at hb
      obtain ⟨⟨h1, h2⟩, h3⟩ := hb
      have h1 := Nat.eq_of_beq_eq_true h1
      have h2 := ble_le h2
      obtain ⟨_, ⟨arr, ty, hg, hr⟩, _⟩ := h.mem b cs hm
      obtain ⟨i, z, hi, hz, hsz, _⟩ := zero_ok hT h h3
      have hyl : p.2.length = (a.eval y).cells.size := by have := hy.1.1; simpa using this
      have h1c : ∀ u ∈ (a.eval y).cells.toList, u.oneCell' = true := fun u hu => by
        obtain ⟨j, hj⟩ := List.getElem?_of_mem hu
        have hlt : j < p.2.length := by rw [hy.1.1]; exact (List.getElem?_eq_some_iff.1 hj).1
        exact (hy.1.2 j _ u (List.getElem?_eq_getElem hlt) hj).1.oneCell
      have hst := run_storeCells_at P (C.β b) off ty (a.eval y).cells.toList 0 arr w hg (by have := hr.1; simp at this ⊢; omega) h1c
      simp only [Nat.add_zero] at hst
      refine wp_skp (w' := w.setRow (C.β b) (arr.toList.take off ++ (a.eval y).cells.toList ++ arr.toList.drop (off + (a.eval y).cells.toList.length)).toArray) ?_ ⟨_, C, hK, ?_⟩
      · unfold execOp
        simp [ho, hv, Instr.storeAt, Instr.sureAddr, storeVar, run_sizeOf hi, hsz, ← h1, hyl]
        simp at hst
        rw [hst]
        rfl
      · rw [app_sto]
        refine (h.store b cs _ hm _ ?_).put o.dst hd _ _ trivial
        simp only [lay]
        rw [List.append_assoc]
        refine (hr.take off).append (hy.1.append ?_)
        rw [hyl]
        simpa using hr.drop (off + (a.eval y).cells.size)
    · exact hK.elim
  · exact hK.elim
/-- Parts laid over cells, one by one. -/
theorem foldl_lay (off : Nat) : ∀ (vs : List Value) (n : Nat) (cells : Array Value), off + n + vs.length ≤ cells.size →
    ((vs.zipIdx n).foldl (fun cs (c : Value × Nat) => cs.setIfInBounds (off + c.2) c.1) cells).toList = cells.toList.take (off + n) ++ (vs ++ cells.toList.drop (off + n + vs.length))
  | [], n, cells, h => by simp
  | v :: vs, n, cells, h => by
    simp only [List.zipIdx_cons, List.foldl_cons]
    rw [foldl_lay off vs (n + 1) _ (by simp at h ⊢; omega)]
    simp only [Array.toList_setIfInBounds]
    have hlt : off + n < cells.toList.length := by simp at h ⊢; omega
    have hsz : cells.toList.length = cells.size := by simp
    simp only [List.length_cons] at h
    rw [show off + (n + 1) = off + n + 1 by omega, List.take_succ_eq_append_getElem (by simpa using hlt)]
    simp only [List.getElem_set_self, List.append_assoc, List.singleton_append, List.cons_append, List.length_cons]
    rw [List.take_set_of_le (by omega), List.drop_set_of_lt (by omega)]
    rw [show off + n + (vs.length + 1) = off + n + 1 + vs.length by omega]
    try rfl
theorem fill_ok (h : Rel P G f C a w) (place : Nat → Option (Nat × TypeId)) (place' : Nat → Option (Nat × Nat)) (hp : ∀ j off ty, place j = some (off, ty) → place' j = some (off, (ti T ty).sz)) :
    ∀ (parts : List (Nat × Operand)) (cs : List AV) (cells : Array Value) (K : List AV → Prop), RepL (RepA P C f w) cs cells.toList → evFill f.env place T cs K parts →
      ∃ cells' cs', Instr.fill place' cells (parts.map fun x => (x.1, a.eval x.2)) = some cells' ∧ RepL (RepA P C f w) cs' cells'.toList ∧ K cs' ∧ cs'.length = cs.length
  | [], cs, cells, K, hr, hK => ⟨cells, cs, rfl, hr, hK, rfl⟩
  | (j, x) :: r, cs, cells, K, hr, hK => by
    unfold evFill at hK
    split at hK
    · exact hK.elim
    · rename_i off ty hpl
      split at hK
      · rename_i p hev
        obtain ⟨hb, hK⟩ := bif_true hK
        simp only [Bool.and_eq_true] at hb
        have h1 := Nat.eq_of_beq_eq_true hb.1
        have h2 := ble_le hb.2
        have hx := evo_ok h (ti T ty).el x
        rw [hev] at hx
        have hxl : p.2.length = (a.eval x).cells.size := by have := hx.1.1; simpa using this
        have hcl : cs.length = cells.size := by have := hr.1; simpa using this
        have hfold := foldl_lay off (a.eval x).cells.toList 0 cells (by simp; omega)
        simp only [Nat.add_zero] at hfold
        have hnew : RepL (RepA P C f w) (lay cs off p.2) ((a.eval x).cells.zipIdx.foldl (fun cs (c : Value × Nat) => cs.setIfInBounds (off + c.2) c.1) cells).toList := by
          rw [← Array.foldl_toList, Array.toList_zipIdx, hfold]
          simp only [lay]
          refine (hr.take off).append (hx.1.append ?_)
          rw [hxl]
          simpa using hr.drop (off + (a.eval x).cells.size)
        obtain ⟨cells', cs', g1, g2, g3, g4⟩ := fill_ok h place place' hp r _ _ K hnew hK
        refine ⟨cells', cs', ?_, g2, g3, by rw [g4]; simp [lay]; omega⟩
        simp only [List.map_cons, Instr.fill, hp j off ty hpl]
        rw [if_neg (by simp; omega)]
        exact g1
      · exact hK.elim
end
end Go.Proofs.Ytpeejmolbmhjjaa.Sx
