/- The machine does what the reading says: structs and slices laid together, new slices, appends; there is no condition beyond those each statement names. -/
import Derived.Test.YtpeejmolbmhjjaaNSy9
namespace Go.Proofs.Ytpeejmolbmhjjaa.Sx
set_option linter.unusedSimpArgs false
set_option linter.unusedVariables false
open Go
section
variable {P : Program} {T : TT} {G : Gd} {f : FS} {C : Cx} {a : Act} {w : World} {o : Oper} {Q : Exit → Act → World → Prop} {K : Dl → Prop} {ok : Nat → Bool}
theorem s_build (hT : TabOk P T) (h : Rel P G f C a w) (hd : ∀ d, o.dst = some d → d < G.n) (t : TypeId) (parts : Array (Nat × Operand)) (ho : o.op = .build t parts)
    (hK : bif (ti T t).ok && (ti T t).fl.all (fun x => Nat.ble 1 (ti T x.2).sz) && Nat.blt 0 (ti T t).fl.length then evFill f.env (fun j => (ti T t).fl[j]?) T (ti T t).zero (fun cs => K { v := .agg cs }) parts.toList else False) :
    o.wp P a w (Post P G f o.dst K) Q := by
  obtain ⟨hb, hK⟩ := bif_true hK
  simp only [Bool.and_eq_true] at hb
  obtain ⟨⟨hok, hall⟩, hne⟩ := hb
  obtain ⟨i, z, hi, hz, hsz, hby, hpos, hce, hzl, hr⟩ := zero_ok hT h hok
  have e := ti_ok hT hok
  have hfl : (ti T t).fl = (match P.underlying t with | some (.struct fs) => fs.toList.map fun g => (g.offset, g.type) | _ => []) := by rw [e]; rfl
  cases hu : P.underlying t with
  | none => rw [hu] at hfl; rw [hfl] at hne; cases hne
  | some d =>
    rw [hu] at hfl
    cases d with
    | struct fs =>
      simp only at hfl
      have hmap : fs.toList.mapM (fun f => (P.info? f.type).map fun i => (f.offset, i.size)) = some (fs.toList.map fun g => (g.offset, (ti T g.type).sz)) := by
        have hall' : ∀ g ∈ fs.toList, 1 ≤ (ti T g.type).sz := fun g hg => by
          have := List.all_eq_true.1 hall (g.offset, g.type) (by rw [hfl]; exact List.mem_map.2 ⟨g, hg, rfl⟩)
          exact ble_le this
        clear hfl hu
        generalize fs.toList = l at hall'
        induction l with
        | nil => rfl
        | cons g l ih =>
          obtain ⟨i, hi, hisz, _⟩ := info_sz hT (hall' g (by simp))
          simp [List.mapM_cons, hi, hisz, ih (fun g hg => hall' g (by simp [hg]))]
      obtain ⟨cells', cs', g1, g2, g3, _⟩ := fill_ok (T := T) h (fun j => (ti T t).fl[j]?) (fun j => (fs.toList.map fun g => (g.offset, (ti T g.type).sz))[j]?)
        (fun j off ty hj => by
          rw [hfl, List.getElem?_map] at hj
          rw [List.getElem?_map]
          cases hq : fs.toList[j]? with
          | none => rw [hq] at hj; cases hj
          | some g => rw [hq] at hj; simp only [Option.map_some, Option.some.injEq, Prod.mk.injEq] at hj ⊢; exact ⟨hj.1, by rw [hj.2]⟩) parts.toList _ z.cells _ hr hK
      have hbuilt : P.built t (parts.map fun x => (x.1, a.eval x.2)).toList = some cells' := by
        unfold Program.built
        simp only [hi, hu, hz, hmap]
        rw [Array.toList_map]
        simpa using g1
      refine wp_val (v := .agg cells') ?_ (post_val h hd g3 (RepP.agg g2))
      unfold execOp
      simp only [ho, Sem.run_bind]
      rw [run_build w t _ cells' hbuilt]
      rfl
    | _ => rw [hfl] at hne; cases hne
theorem chunks_len (sz : Nat) : ∀ (n : Nat) (cs : List AV), (chunks sz n cs).length = n
  | 0, _ => rfl
  | n + 1, cs => by simp [chunks, chunks_len sz n]
theorem chunks_flat (sz : Nat) : ∀ (n : Nat) (cs : List AV), cs.length = n * sz → (chunks sz n cs).flatten = cs
  | 0, cs, h => by simp at h; subst h; rfl
  | n + 1, cs, h => by
    simp only [chunks, List.flatten_cons]
    rw [chunks_flat sz n _ (by simp [h, Nat.add_mul])]
    exact List.take_append_drop _ _
theorem chunks_each (sz : Nat) : ∀ (n : Nat) (cs : List AV), cs.length = n * sz → ∀ xs ∈ chunks sz n cs, xs.length = sz ∧ ∀ x ∈ xs, x ∈ cs
  | 0, cs, h, xs, hx => by cases hx
  | n + 1, cs, h, xs, hx => by
    simp only [chunks, List.mem_cons] at hx
    rcases hx with rfl | hx
    · exact ⟨by simp [h, Nat.add_mul], fun x hx => List.mem_of_mem_take hx⟩
    · obtain ⟨h1, h2⟩ := chunks_each sz n (cs.drop sz) (by simp [h, Nat.add_mul]) xs hx
      exact ⟨h1, fun x hx => List.mem_of_mem_drop (h2 x hx)⟩
/-- A slice without spare places, over a new row. -/
theorem post_fresh (h : Rel P G f C a w) {dst : Option Tmp} (hd : ∀ d, dst = some d → d < G.n) (arr : Array Value) (ty e : TypeId) (es : List (List AV)) (hlen : ∀ xs ∈ es, xs.length = P.cellsOf e) (hcl : ∀ xs ∈ es, ∀ x ∈ xs, x.clean = true)
    (hr : RepL (Rep P C.F C.β f.ub w) es.flatten arr.toList) (hK : fresh f.ut (dst.getD 0) e es K) : Post P G f dst K (a.put dst (.slice (some ⟨w.heap.size, 0, none⟩) es.length es.length)) (w.alloc (.cells arr ty)) := by
  have h' := h.row (.cells arr ty)
  have hrep : ∀ t v, Rep P C.F C.β f.ub (w.alloc (.cells arr ty)) (.lst t v e es) (.slice (some ⟨w.heap.size, 0, none⟩) es.length es.length) := fun t v =>
    Rep.mkLst t v e es _ _ _ arr.toList (Nat.le_refl _) hlen hcl (hr.mono fun x u hx => hx.keep (fun b c u hc hF => ⟨cell_alloc hc, hF⟩) (fun b hb => ⟨hb, rfl⟩) rfl (Plain.alloc w _))
      (fun j u hj => ⟨by rw [Nat.zero_add, World.cell?_alloc_new]; simpa using hj, fun hF => by have := h.lt _ _ hF; omega⟩)
  unfold fresh at hK
  cases hb : f.ut (16 * dst.getD 0) || Nat.ble (dst.getD 0) 1 with
  | true =>
    rw [hb] at hK
    refine post_val h' hd hK (RepP.one rfl ⟨hrep 1 0, .inr ⟨h.one.2.2, fun c hc => ?_⟩⟩)
    rw [h.one.1] at hc
    obtain rfl := Option.some.inj hc
    exact ⟨Nat.le_refl _, fun _ => .inl rfl⟩
  | false =>
    rw [hb] at hK
    simp only [Bool.or_eq_false_iff] at hb
    have hne : 16 * dst.getD 0 ≠ 0 := by
      intro e0
      have h2 := hb.2
      have : dst.getD 0 = 0 := (Nat.mul_eq_zero.1 e0).resolve_left (by decide)
      rw [this] at h2; cases h2
    refine ⟨_, { C with τ := fun k => if k = 16 * dst.getD 0 then none else C.τ k }, hK, ?_⟩
    rw [app_lin]
    refine (h'.lin _ hb.1 hne).put dst hd _ _ (RepP.one rfl ⟨hrep _ _, .inr ⟨by simp, fun c hc => ?_⟩⟩)
    simp only [if_true, Option.some.injEq] at hc
    subst hc
    exact ⟨Nat.le_refl _, fun _ => .inl rfl⟩
theorem rep0_len (cs : List AV) : ∀ n, (rep0 cs n).length = n * cs.length
  | 0 => by simp [rep0]
  | n + 1 => by simp [rep0, rep0_len cs n, Nat.add_mul]; omega
theorem rep0_get (cs : List AV) : ∀ n k, k < n * cs.length → (rep0 cs n)[k]? = cs[k % cs.length]?
  | 0, k, h => by simp at h
  | n + 1, k, h => by
    simp only [rep0]
    rw [List.getElem?_append]
    by_cases hk : k < cs.length
    · rw [if_pos hk, Nat.mod_eq_of_lt hk]
    · rw [if_neg hk, rep0_get cs n _ (by rw [Nat.add_mul] at h; omega), Nat.mod_eq_sub_mod (Nat.le_of_not_lt hk)]
theorem zeros_ok {R : AV → Value → Prop} {z : Array Value} {cs : List AV} (hr : RepL R cs z.toList) (n : Nat) (hp : 0 < cs.length) : RepL R (rep0 cs n) ((Array.range (n * cs.length)).map (z[· % z.size]!)).toList := by
  have hz : z.size = cs.length := by have := hr.1; simpa using this.symm
  refine ⟨by simp [rep0_len], fun j x u hx hu => ?_⟩
  have hj : j < n * cs.length := by rw [← rep0_len]; exact (List.getElem?_eq_some_iff.1 hx).1
  rw [rep0_get cs n j hj] at hx
  have hm : j % cs.length < z.size := by rw [hz]; exact Nat.mod_lt _ hp
  have hu' : u = z[j % cs.length]'hm := by
    simp only [Array.toList_map, Array.toList_range, List.getElem?_map, List.getElem?_range hj, Option.map_some, Option.some.injEq, hz] at hu
    rw [← hu, getElem!_pos z (j % cs.length) hm]
  exact hr.2 _ x u hx (by rw [hu']; simp [hm])
theorem strip_rep {F : Nat → Nat → Prop} {β : Nat → Nat} {U : Nat → Bool} {cs : List AV} {vs : List Value} (h : RepL (RepA P C f w) cs vs) : RepL (Rep P C.F C.β f.ub w) (stripV cs) vs := by
  refine ⟨by simp [stripV, h.1], fun j x u hx hu => ?_⟩
  simp only [stripV, List.getElem?_map] at hx
  cases hq : cs[j]? with
  | none => rw [hq] at hx; cases hx
  | some y =>
    rw [hq] at hx
    obtain rfl := Option.some.inj hx
    exact (h.2 j y u hq hu).1.strip
theorem s_buildSlice (hT : TabOk P T) (h : Rel P G f C a w) (hd : ∀ d, o.dst = some d → d < G.n) (t : TypeId) (n : Nat) (parts : Array (Nat × Operand)) (ho : o.op = .buildSlice t n parts)
    (hK : bif (ti T t).sl && (ti T (ti T t).el).ok && Nat.ble n 64 then
      evFill f.env (fun j => some (j * (ti T (ti T t).el).sz, (ti T t).el)) T (rep0 (ti T (ti T t).el).zero n) (fun cs => bif (stripV cs).all AV.clean then fresh f.ut (o.dst.getD 0) (ti T t).el (chunks (ti T (ti T t).el).sz n (stripV cs)) K else False) parts.toList
    else False) (hsmall : (ti T (ti T t).el).sz ≤ 262144) : o.wp P a w (Post P G f o.dst K) Q := by
  obtain ⟨hb, hK⟩ := bif_true hK
  simp only [Bool.and_eq_true] at hb
  obtain ⟨⟨hsl, hok⟩, hn⟩ := hb
  have hu := ti_sl hT hsl
  obtain ⟨i, z, hi, hz, hsz, hby, hpos, hce, hzl, hr⟩ := zero_ok hT h hok
  have hzlen : (ti T (ti T t).el).zero.length = (ti T (ti T t).el).sz := by rw [hr.1, hzl]
  have hzer := zeros_ok hr n (by rw [hzlen]; exact hpos)
  rw [hzlen] at hzer
  obtain ⟨cells', cs', g1, g2, g3, g4⟩ := fill_ok (T := T) h (fun j => some (j * (ti T (ti T t).el).sz, (ti T t).el)) (fun j => some (j * (ti T (ti T t).el).sz, (ti T (ti T t).el).sz))
    (fun j off ty hj => by simp only [Option.some.injEq, Prod.mk.injEq] at hj ⊢; obtain ⟨h1, h2⟩ := hj; exact ⟨h1, by rw [← h2]⟩) parts.toList _ _ _ hzer hK
  obtain ⟨hcl, hK⟩ := bif_true g3
  have hcl := List.all_eq_true.1 hcl
  have hlen : (stripV cs').length = n * (ti T (ti T t).el).sz := by simp only [stripV, List.length_map]; rw [g4, rep0_len, hzlen]
  have hes : (chunks (ti T (ti T t).el).sz n (stripV cs')).length = n := chunks_len _ _ _
  have hn64 := ble_le hn
  have hprod : n * i.size ≤ 16777216 := by
    calc n * i.size ≤ 64 * 262144 := Nat.mul_le_mul hn64 (by rw [hsz]; exact hsmall)
      _ = 16777216 := by decide
  have hpost := post_fresh h hd cells' (ti T t).el (ti T t).el (chunks (ti T (ti T t).el).sz n (stripV cs')) (fun xs hxs => by rw [hce]; exact (chunks_each _ n _ hlen xs hxs).1)
    (fun xs hxs x hx => hcl x ((chunks_each _ n _ hlen xs hxs).2 x hx)) (by rw [chunks_flat _ n _ hlen]; exact strip_rep (F := C.F) (β := C.β) (U := f.ub) g2) hK
  rw [hes] at hpost
  refine wp_val (v := .slice (some ⟨w.heap.size, 0, none⟩) n n) ?_ hpost
  have hzv : (zeroValue (ti T t).el).run P w = .ok z w := by simp [zeroValue, typeInfo, hi, hz]
  have hA : ∀ z' : Array Value, n * i.size = 0 → (Array.range (n * i.size)).map (fun x => z'[x % z'.size]!) = (Array.range (n * (ti T (ti T t).el).sz)).map (fun x => z.cells[x % z.cells.size]!) := fun z' h0 => by
    rw [← hsz, h0]; simp
  rw [← hsz] at g1
  unfold execOp
  simp only [ho, Instr.buildSlice, Sem.run_bind, run_underlying hu, Result.andThen_ok, run_sizeOf hi]
  rw [if_neg (by omega)]
  by_cases h00 : n * i.size = 0
  · rw [if_pos h00]
    simp only [Sem.run_bind, Sem.run_pure, Result.andThen_ok]
    rw [hA #[] h00, Array.toList_map, ← hsz, g1]
    simp [newRow]
  · rw [if_neg h00]
    simp only [Sem.run_bind, Sem.run_pure, hzv, Result.andThen_ok]
    rw [Array.toList_map, g1]
    simp [newRow]
theorem repl_flat (cs : List AV) : ∀ q, (List.replicate q (stripV cs)).flatten = stripV (rep0 cs q)
  | 0 => rfl
  | q + 1 => by
    rw [List.replicate_succ, List.flatten_cons, repl_flat cs q]
    simp [rep0, stripV]
theorem wrap64_id (n : Int) (h0 : 0 ≤ n) (h1 : n ≤ 140737488355328) : IntKind.i64.wrap n = n := by
  unfold IntKind.wrap
  simp only [IntKind.bits, IntKind.signed]
  simp
  omega
theorem post_row (h : Rel P G f C a w) {dst : Option Tmp} (hd : ∀ d, dst = some d → d < G.n) {b : Nat} (hbK : b < K0) (hu : f.ub b = false) (arr : Array Value) (ty : TypeId) (cs : List AV) (n : Nat) (e : TypeId) (hr : RepL (RepA P C f w) cs arr.toList)
    (hK : K { v := .one (.row b n e), mm := [(b, cs)], nb := [b] }) : Post P G f dst K (a.put dst (.slice (some ⟨w.heap.size, 0, none⟩) n n)) (w.alloc (.cells arr ty)) := by
  refine ⟨_, { C with F := fun k o => C.F k o ∨ k = w.heap.size, β := fun k => if k = b then w.heap.size else C.β k }, hK, ?_⟩
  rw [app_box]
  refine (h.box b hbK hu arr ty cs hr).put dst hd _ _ (RepP.one rfl ⟨?_, trivial⟩)
  have hU : (fun k => Nat.beq k b || f.ub k) b = true := by simp
  have h0 := Rep.row (P := P) (F := fun k o => C.F k o ∨ k = w.heap.size) (U := fun k => Nat.beq k b || f.ub k) (β := fun k => if k = b then w.heap.size else C.β k) (w := w.alloc (.cells arr ty)) b n e hU
  simp only [if_true] at h0
  exact h0
theorem s_makeSlice (hT : TabOk P T) (h : Rel P G f C a w) (hd : ∀ d, o.dst = some d → d < G.n) (t : TypeId) (l c : Operand) (ho : o.op = .makeSlice t l c)
    (hK : isI (evo f.env 0 l) fun _ n => isI (evo f.env 0 c) fun _ m =>
      n = m ∧ 0 ≤ n ∧ n * (ti T (ti T t).el).byt ≤ 140737488355328 ∧ n ≤ 140737488355328 ∧ bif (ti T t).sl && (ti T (ti T t).el).ok && (ti T (ti T t).el).zero.all (fun a => a.strip.clean) then
      (bif isConst l then fresh f.ut (o.dst.getD 0) (ti T t).el (List.replicate n.toNat (stripV (ti T (ti T t).el).zero)) K else bif !f.ub (o.dst.getD 0) then K { v := .one (.row (o.dst.getD 0) n.toNat (ti T t).el), mm := [(o.dst.getD 0, rep0 (ti T (ti T t).el).zero n.toNat)], nb := [o.dst.getD 0] } else False) else False) : o.wp P a w (Post P G f o.dst K) Q := by
  obtain ⟨k1, n, e1, hK⟩ := isI_inv hK
  obtain ⟨k2, m, e2, rfl, h0, hb1, hb2, hK⟩ := isI_inv hK
  have hl := evo_ok h 0 l
  have hc := evo_ok h 0 c
  rw [e1] at hl; rw [e2] at hc
  have hl := inv_i hl
  have hc := inv_i hc
  obtain ⟨hb, hK⟩ := bif_true hK
  simp only [Bool.and_eq_true] at hb
  obtain ⟨⟨hsl, hok⟩, hcl⟩ := hb
  have hu := ti_sl hT hsl
  obtain ⟨i, z, hi, hz, hsz, hby, hpos, hce, hzl, hr⟩ := zero_ok hT h hok
  have hzlen : (ti T (ti T t).el).zero.length = (ti T (ti T t).el).sz := by rw [hr.1, hzl]
  have hzer := zeros_ok hr n.toNat (by rw [hzlen]; exact hpos)
  rw [hzlen] at hzer
  have hflat := repl_flat (ti T (ti T t).el).zero n.toNat
  have hpost : Post P G f o.dst K (a.put o.dst (.slice (some ⟨w.heap.size, 0, none⟩) n.toNat n.toNat)) (w.alloc (.cells ((Array.range (n.toNat * (ti T (ti T t).el).sz)).map (z.cells[· % z.cells.size]!)) (ti T t).el)) := by
    cases hcon : isConst l with
    | false =>
      rw [hcon] at hK
      obtain ⟨hub, hK⟩ := bif_true hK
      exact post_row h hd (dst_lt h hd) (by simpa using hub) _ (ti T t).el _ n.toNat _ hzer hK
    | true =>
      rw [hcon] at hK
      replace hK : fresh f.ut (o.dst.getD 0) (ti T t).el (List.replicate n.toNat (stripV (ti T (ti T t).el).zero)) K := hK
      have hpost := post_fresh h hd ((Array.range (n.toNat * (ti T (ti T t).el).sz)).map (z.cells[· % z.cells.size]!)) (ti T t).el (ti T t).el (List.replicate n.toNat (stripV (ti T (ti T t).el).zero))
        (fun xs hxs => by rw [List.eq_of_mem_replicate hxs, hce]; simp [stripV, hzlen])
        (fun xs hxs x hx => by
          rw [List.eq_of_mem_replicate hxs] at hx
          obtain ⟨y, hy, rfl⟩ := List.mem_map.1 hx
          exact List.all_eq_true.1 hcl y hy)
        (by rw [hflat]; exact strip_rep (F := C.F) (β := C.β) (U := f.ub) hzer) hK
      rw [List.length_replicate] at hpost
      exact hpost
  refine wp_val (v := .slice (some ⟨w.heap.size, 0, none⟩) n.toNat n.toNat) ?_ hpost
  have hw := wrap64_id n h0 hb2
  have hti : (typeInfo (ti T t).el).run P w = .ok i w := by simp [typeInfo, hi]
  have hzv : (zeroValue (ti T t).el).run P w = .ok z w := by simp [zeroValue, typeInfo, hi, hz]
  unfold execOp
  simp only [ho, hl, hc, Instr.makeSlice, Sem.run_bind, run_underlying hu, Result.andThen_ok, asInt, asIntOf, Sem.run_pure, hti, hw]
  have hbn : ¬ ((decide (n < 0) || decide ((i.bytes : Int) * n > 281474976710656)) = true) := by
    rw [hby, Int.mul_comm]; simp; omega
  have hcond : ((decide (n < 0) || decide ((i.bytes : Int) * n > 2 ^ 48)) = true ∨ n < 0) ∨ n > n ↔ False := by
    constructor
    · rintro ((h1 | h1) | h1)
      · exact hbn (by simpa using h1)
      · omega
      · omega
    · exact False.elim
  simp only [Bool.or_eq_true, decide_eq_true_eq]
  rw [if_neg (by
    intro hh
    refine hbn ?_
    simp at hh ⊢
    omega)]
  simp only [Sem.run_bind, run_askRoom, Sem.run_pure, Result.andThen_ok, run_sizeOf hi]
  by_cases h00 : n.toNat * i.size = 0
  · rw [if_pos h00]
    simp only [Sem.run_bind, Sem.run_pure, Result.andThen_ok, newRow, run_newObj]
    rw [← hsz, h00]
    simp only [World.alloc_eq]
    congr 3
    apply Array.ext <;> simp
  · rw [if_neg h00]
    simp only [Sem.run_bind, Sem.run_pure, hzv, Result.andThen_ok, newRow, run_newObj]
    rw [hsz]
    rfl
end
end Go.Proofs.Ytpeejmolbmhjjaa.Sx
