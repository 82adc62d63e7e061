/- The machine does what the reading says: loads, stores, addresses, cuts; there is no condition beyond those each statement names. -/
import Derived.Test.YtpeejmolbmhjjaaNSy6
namespace Go.Proofs.Ytpeejmolbmhjjaa.Sx
set_option linter.unusedSimpArgs false
set_option linter.unusedVariables false
open Go
section
variable {P : Program} {T : TT} {G : Gd} {f : FS} {C : Cx} {a : Act} {w : World} {o : Oper} {Q : Exit → Act → World → Prop} {K : Dl → Prop} {ok : Nat → Bool}
theorem bif_true {c : Bool} {p : Prop} (h : bif c then p else False) : c = true ∧ p := by cases c; exact h.elim; exact ⟨rfl, h⟩
theorem ble_le {a b : Nat} (h : Nat.ble a b = true) : a ≤ b := Nat.le_of_ble_eq_true h
theorem sub_eq (i : TI) (cs : List AV) (off : Nat) : sub i cs off = .pv (i.agg, (cs.drop off).take i.sz) := by unfold sub; cases i.agg <;> rfl
theorem repA_clean {x : AV} {v : Value} (hc : x.clean = true) (h : Rep P C.F C.β f.ub w x v) : RepA P C f w x v := by
  refine ⟨h, ?_⟩
  unfold Tip
  split
  · exact .inl (Nat.eq_of_beq_eq_true hc)
  · trivial
theorem s_load (hT : TabOk P T) (h : Rel P G f C a w) (hd : ∀ d, o.dst = some d → d < G.n) (t : TypeId) (x : Operand) (ho : o.op = .load t x)
    (hK : match evo f.env 0 x with
    | .pv (false, [.ptr b off]) => match f.mem b with
      | some cs => ok b = true ∧ bif Nat.ble (off + (ti T t).sz) cs.length && Nat.ble 1 (ti T t).sz && (ti T t).ok then K { v := sub (ti T t) cs off } else False
      | none => False
    | .pv (false, [.eptr cs]) => bif Nat.ble (ti T t).sz cs.length && Nat.ble 1 (ti T t).sz && (ti T t).ok then K { v := sub (ti T t) cs 0 } else False
    | _ => False) : o.wp P a w (Post P G f o.dst K) Q := by
  have hx := evo_ok h 0 x
  have fin : ∀ (blk off : Nat) (cs : List AV) (vs : List Value), a.eval x = .pointer (some ⟨blk, off, none⟩) → (ti T t).ok = true → cs.length = (ti T t).sz → RepL (RepA P C f w) cs vs →
      (∀ (j : Nat) (u : Value), vs[j]? = some u → w.cell? ⟨blk, off + j, none⟩ = some u) → K { v := .pv ((ti T t).agg, cs) } → o.wp P a w (Post P G f o.dst K) Q := by
    intro blk off cs vs hv hok hl hr hc hK
    obtain ⟨v, hrun, hrep⟩ := run_loadVar hT hok blk off cs vs hl hr hc
    refine wp_val (v := v) ?_ (post_val h hd hK hrep)
    unfold execOp; simp [ho, hv, Instr.loadAt, Instr.sureAddr, hrun]
  split at hK
  · rename_i b off e1
    rw [e1] at hx
    obtain ⟨hv, hu⟩ := inv_ptr hx
    split at hK
    · rename_i cs hm
      obtain ⟨_, hK⟩ := hK
      obtain ⟨hb, hK⟩ := bif_true hK
      simp only [Bool.and_eq_true] at hb
      obtain ⟨⟨h1, h2⟩, h3⟩ := hb
      have h1 := ble_le h1
      obtain ⟨_, ⟨arr, ty, hg, hr⟩, _⟩ := h.mem b cs hm
      rw [sub_eq] at hK
      refine fin (C.β b) off ((cs.drop off).take (ti T t).sz) ((arr.toList.drop off).take (ti T t).sz) hv h3 (by simp; omega) ((hr.drop off).take _) (fun j u hj => ?_) hK
      rw [List.getElem?_take] at hj
      split at hj
      · rw [List.getElem?_drop] at hj
        rw [cell_of_row w _ _ arr ty _ hg]; simpa using hj
      · cases hj
    · exact hK.elim
  · rename_i cs e1
    rw [e1] at hx
    obtain ⟨blk, off, vals, hv, hc1, hc2⟩ := inv_eptr hx
    obtain ⟨hb, hK⟩ := bif_true hK
    simp only [Bool.and_eq_true] at hb
    obtain ⟨⟨h1, h2⟩, h3⟩ := hb
    have h1 := ble_le h1
    rw [sub_eq] at hK
    simp only [List.drop_zero] at hK
    have hlen : (cs.take (ti T t).sz).length = (ti T t).sz := by simp; omega
    have get : ∀ j x, (cs.take (ti T t).sz)[j]? = some x → cs[j]? = some x := fun j x hj => by
      rw [List.getElem?_take] at hj; split at hj
      · exact hj
      · cases hj
    refine fin blk off (cs.take (ti T t).sz) ((List.range (ti T t).sz).map vals) hv h3 hlen ⟨by rw [hlen]; simp, fun j x u hj hu => ?_⟩ (fun j u hu => ?_) hK
    · have hlt : j < (ti T t).sz := by rw [← hlen]; exact (List.getElem?_eq_some_iff.1 hj).1
      rw [List.getElem?_map, List.getElem?_range hlt] at hu
      obtain rfl := Option.some.inj hu
      exact repA_clean (hc1 j x (get j x hj)).1 (hc2 j x (get j x hj))
    · have hlt : j < (ti T t).sz := by
        have := (List.getElem?_eq_some_iff.1 hu).1; simpa using this
      rw [List.getElem?_map, List.getElem?_range hlt] at hu
      obtain rfl := Option.some.inj hu
      have hx : cs[j]? = some cs[j] := List.getElem?_eq_getElem (by omega)
      exact (hc1 j _ hx).2.1
  · exact hK.elim
theorem s_nil (h : Rel P G f C a w) (hd : ∀ d, o.dst = some d → d < G.n) (x : Operand) (ho : o.op = .nilCheck x)
    (hK : match evo f.env 0 x with
    | .pv (false, [.ptr b off]) => one K (.ptr b off)
    | .pv (false, [.eptr cs]) => one K (.eptr cs)
    | _ => False) : o.wp P a w (Post P G f o.dst K) Q := by
  have hx := evo_ok h 0 x
  split at hK
  · rename_i b off e1
    rw [e1] at hx
    obtain ⟨hv, hu⟩ := inv_ptr hx
    refine wp_val (v := a.eval x) ?_ (post_val h hd hK hx)
    unfold execOp; simp [ho, hv]
  · rename_i cs e1
    rw [e1] at hx
    obtain ⟨blk, off, vals, hv, hc1, hc2⟩ := inv_eptr hx
    refine wp_val (v := a.eval x) ?_ (post_val h hd hK hx)
    unfold execOp; simp [ho, hv]
  · exact hK.elim
theorem info_sz (hT : TabOk P T) {t : TypeId} (h : 1 ≤ (ti T t).sz) : ∃ i, P.info? t = some i ∧ i.size = (ti T t).sz ∧ P.cellsOf t = (ti T t).sz := by
  have e := ti_sz hT h
  rw [e] at h ⊢
  simp only [tiOf, Program.cellsOf] at h ⊢
  cases hi : P.info? t with
  | none => simp [hi] at h
  | some i => exact ⟨i, rfl, by simp, trivial⟩
theorem fld (hT : TabOk P T) {t : TypeId} {j off : Nat} {ty : TypeId} (h : (ti T t).fl[j]? = some (off, ty)) : ∃ fs g, P.underlying t = some (.struct fs) ∧ fs[j]? = some g ∧ g.offset = off ∧ g.type = ty := by
  have e := (ti_or hT t).resolve_right fun e => by rw [e] at h; simp [dflt] at h
  rw [e] at h; simp only [tiOf] at h
  split at h
  · rename_i fs hfs
    rw [List.getElem?_map] at h
    cases hq : fs.toList[j]? with
    | none => rw [hq] at h; cases h
    | some g =>
      rw [hq] at h
      simp only [Option.map_some, Option.some.injEq, Prod.mk.injEq] at h
      exact ⟨fs, g, hfs, by simpa using hq, h.1, h.2⟩
  · simp at h
theorem s_fieldAddr (hT : TabOk P T) (h : Rel P G f C a w) (hd : ∀ d, o.dst = some d → d < G.n) (t : TypeId) (x : Operand) (j : Nat) (ho : o.op = .fieldAddr t x j)
    (hK : match (ti T t).fl[j]? with
    | none => False
    | some (off, ty) => bif Nat.ble 1 (ti T ty).sz then (match evo f.env 0 x with
      | .pv (false, [.ptr b o']) => one K (.ptr b (o' + off))
      | .pv (false, [.eptr cs]) => one K (.eptr (cs.drop off))
      | _ => False) else False) : o.wp P a w (Post P G f o.dst K) Q := by
  have hx := evo_ok h 0 x
  split at hK
  · exact hK.elim
  · rename_i off ty hf
    have hb := (bif_true hK).1
    replace hK := (bif_true hK).2
    obtain ⟨fs, g, hu, hg, rfl, rfl⟩ := fld hT hf
    obtain ⟨i, hi, hsz, _⟩ := info_sz hT (ble_le hb)
    have hne : i.size ≠ 0 := by have := ble_le hb; omega
    have run : ∀ blk q, a.eval x = .pointer (some ⟨blk, q, none⟩) → (execOp a.eval o).run P w = .ok (.value (.pointer (some ⟨blk, q + g.offset, none⟩))) w := fun blk q hv => by
      unfold execOp; simp [ho, hv, Instr.fieldAt, run_underlying hu, hg, Instr.sureAddr, fieldPlace, run_sizeOf hi, hne, add_flat]
    split at hK
    · rename_i b q e1
      rw [e1] at hx
      obtain ⟨hv, hub⟩ := inv_ptr hx
      exact wp_val (run _ _ hv) (post_val h hd hK (RepP.one rfl ⟨.ptr _ _ hub, trivial⟩))
    · rename_i cs e1
      rw [e1] at hx
      obtain ⟨blk, q, vals, hv, hc1, hc2⟩ := inv_eptr hx
      refine wp_val (run _ _ hv) (post_val h hd hK (RepP.one rfl ⟨.eptr _ _ _ (fun c => vals (g.offset + c)) (fun c x hx => ?_) (fun c x hx => ?_), trivial⟩))
      · rw [List.getElem?_drop] at hx; have := hc1 _ x hx; rwa [← Nat.add_assoc] at this
      · rw [List.getElem?_drop] at hx; exact hc2 _ x hx
    · exact hK.elim
theorem s_field (hT : TabOk P T) (h : Rel P G f C a w) (hd : ∀ d, o.dst = some d → d < G.n) (t : TypeId) (x : Operand) (j : Nat) (ho : o.op = .field t x j)
    (hK : match (ti T t).fl[j]? with
    | none => False
    | some (off, ty) => match evo f.env 0 x with
      | .pv (true, cs) => bif Nat.ble (off + (ti T ty).sz) cs.length && Nat.ble 1 (ti T ty).sz && (ti T ty).ok then K { v := sub (ti T ty) cs off } else False
      | _ => False) : o.wp P a w (Post P G f o.dst K) Q := by
  have hx := evo_ok h 0 x
  split at hK
  · exact hK.elim
  · rename_i off ty hf
    obtain ⟨fs, g, hu, hg, rfl, rfl⟩ := fld hT hf
    split at hK
    · rename_i cs e1
      rw [e1] at hx
      obtain ⟨arr, hv, hr⟩ := RepP.agg_inv hx
      obtain ⟨hb, hK⟩ := bif_true hK
      simp only [Bool.and_eq_true] at hb
      obtain ⟨⟨h1, h2⟩, h3⟩ := hb
      have h1 := ble_le h1
      obtain ⟨i, z, hi, hz, hsz, hby, hzl, hz1, hpos, hag, _, _⟩ := ti_info hT h3
      rw [sub_eq] at hK
      have hr' : RepL (RepA P C f w) ((cs.drop g.offset).take (ti T g.type).sz) ((arr.toList.drop g.offset).take (ti T g.type).sz) := (hr.drop _).take _
      have hcl : ((cs.drop g.offset).take (ti T g.type).sz).length = (ti T g.type).sz := by simp; omega
      have part_run : ∃ v, (part g.type arr g.offset).run P w = .ok v w ∧ RepT (RepA P C f w) (.pv ((ti T g.type).agg, (cs.drop g.offset).take (ti T g.type).sz)) v := by
        cases hb : (ti T g.type).agg with
        | true =>
          refine ⟨.agg (arr.extract g.offset (g.offset + i.size)), ?_, RepP.agg ?_⟩
          · unfold part; simp [run_isAgg hT h3, hb, run_sizeOf hi]
          · have : (arr.extract g.offset (g.offset + i.size)).toList = (arr.toList.drop g.offset).take (ti T g.type).sz := by
              rw [Array.toList_extract, List.extract_eq_take_drop, hsz]; simp
            rw [this]; exact hr'
        | false =>
          have hone : (ti T g.type).sz = 1 := hag.resolve_left (by rw [hb]; decide)
          rw [hone] at hr' hcl ⊢
          obtain ⟨y, hy⟩ := List.length_eq_one_iff.1 hcl
          rw [hy] at hr' ⊢
          obtain ⟨u, us, hus, k1, k2⟩ := hr'.cons_inv
          have h0 : arr[g.offset]? = some u := by
            have : ((arr.toList.drop g.offset).take 1)[0]? = some u := by rw [hus]; rfl
            rw [List.getElem?_take] at this; simpa [List.getElem?_drop] using this
          exact ⟨u, by unfold part; simp [run_isAgg hT h3, hb, h0], RepP.one k1.1.oneCell k1⟩
      obtain ⟨v, hv1, hv2⟩ := part_run
      refine wp_val (v := v) ?_ (post_val h hd hK hv2)
      unfold execOp; simp [ho, hv, Instr.field, run_underlying hu, hg, asAgg, hv1]
    · exact hK.elim
theorem s_indexAddr (hT : TabOk P T) (h : Rel P G f C a w) (hd : ∀ d, o.dst = some d → d < G.n) (t : TypeId) (x ix : Operand) (ho : o.op = .indexAddr t x ix)
    (hK : isLR (evo f.env 0 x) (fun _ _ e es => isI (evo f.env 0 ix) fun _ n => 0 ≤ n ∧ bif (ti T t).sl && Nat.beq (ti T t).el e && Nat.ble 1 (ti T e).sz then ∃ cs, es[n.toNat]? = some cs ∧ one K (.eptr cs) else False)
      fun b m e => isI (evo f.env 0 ix) fun _ n => (0 ≤ n ∧ n < m) ∧ bif (ti T t).sl && Nat.beq (ti T t).el e && Nat.ble 1 (ti T e).sz then one K (.ptr b (n.toNat * (ti T e).sz)) else False) :
    o.wp P a w (Post P G f o.dst K) Q := by
  rcases isLR_inv hK with ⟨lt, lv, e, es, e1, hK⟩ | ⟨b, m, e, e1, hK⟩
  rotate_left
  · obtain ⟨k, n, e2, h0, hK⟩ := isI_inv hK
    have hx := evo_ok h 0 x
    have hy := evo_ok h 0 ix
    rw [e1] at hx; rw [e2] at hy
    have hy := inv_i hy
    obtain ⟨hb, hK⟩ := bif_true hK
    simp only [Bool.and_eq_true] at hb
    have hel := Nat.eq_of_beq_eq_true hb.1.2
    have hu := ti_sl hT hb.1.1
    rw [hel] at hu
    obtain ⟨i, hi, hsz, hce⟩ := info_sz hT (ble_le hb.2)
    obtain ⟨hv, hub⟩ := inv_row hx
    refine wp_val (v := .pointer (some ⟨C.β b, n.toNat * (ti T e).sz, none⟩)) ?_ (post_val h hd hK (RepP.one rfl ⟨.ptr b _ hub, trivial⟩))
    unfold execOp
    simp [ho, hv, hy, Instr.indexAt, asIntOf, run_underlying hu, h0.1, h0.2, run_sizeOf hi, add_flat, hsz, hce]
  obtain ⟨k, n, e2, h0, hK⟩ := isI_inv hK
  have hx := evo_ok h 0 x
  have hy := evo_ok h 0 ix
  rw [e1] at hx; rw [e2] at hy
  have hy := inv_i hy
  obtain ⟨hb, cs, hcs, hK⟩ := bif_true hK
  simp only [Bool.and_eq_true] at hb
  have hel := Nat.eq_of_beq_eq_true hb.1.2
  have hu := ti_sl hT hb.1.1
  rw [hel] at hu
  obtain ⟨i, hi, hsz, hce⟩ := info_sz hT (ble_le hb.2)
  obtain ⟨hrep, hl⟩ := inv_lst hx
  rcases hl with ⟨_, rfl⟩ | ⟨blk, off, cap, hv, hcap⟩ | ⟨_, _, _, rfl⟩
  · simp at hcs
  · have hrep := hrep.1
    rw [hv] at hrep
    cases hrep with
    | emp => simp at hcs
    | lst _ _ _ _ _ _ _ vals _ hlen h1 h2 =>
      have hlt := (List.getElem?_eq_some_iff.1 hcs).1
      have hn : (n.toNat : Int) = n := Int.toNat_of_nonneg h0
      refine wp_val (v := .pointer (some ⟨blk, off + n.toNat * P.cellsOf e, none⟩)) ?_ (post_val h hd hK (RepP.one rfl ⟨.eptr _ _ _ (fun c => vals n.toNat c) (fun c x hx => ?_) (fun c x hx => h2 _ c cs x hcs hx), trivial⟩))
      · unfold execOp
        have hr : 0 ≤ n ∧ n < (es.length : Int) := ⟨h0, by omega⟩
        simp [ho, hv, hy, Instr.indexAt, asIntOf, run_underlying hu, hr.1, hr.2, run_sizeOf hi, add_flat, hsz, hce]
      · have := h1 n.toNat c cs x hcs hx
        rw [Nat.add_assoc]; exact this
  · simp at hcs
theorem s_extract (h : Rel P G f C a w) (hd : ∀ d, o.dst = some d → d < G.n) (x : Operand) (j : Nat) (ho : o.op = .extract x j)
    (hK : match evo f.env 0 x with
    | .tup xs => match xs[j]? with
      | some p => K { v := .pv p }
      | none => False
    | _ => False) : o.wp P a w (Post P G f o.dst K) Q := by
  have hx := evo_ok h 0 x
  split at hK
  · rename_i xs e1
    rw [e1] at hx
    obtain ⟨arr, hv, hl, hr⟩ := hx
    split at hK
    · rename_i p hp
      have hlt : j < arr.size := by rw [← hl]; exact (List.getElem?_eq_some_iff.1 hp).1
      have hj : arr[j]? = some arr[j] := Array.getElem?_eq_getElem hlt
      refine wp_val (v := arr[j]) ?_ (post_val h hd hK (hr j p _ hp hj))
      unfold execOp; simp [ho, hv, Instr.extract, hj]
    · exact hK.elim
  · exact hK.elim
theorem flat_u8 : ∀ (es : List (List AV)), (∀ xs ∈ es, ∃ n, xs = [AV.i .u8 n]) → es.flatten = (es.map fun xs => match xs with | [.i .u8 n] => n | _ => 0).map fun n => AV.i .u8 n
  | [], _ => rfl
  | y :: ys, hes => by
    obtain ⟨n, rfl⟩ := hes y (by simp)
    simp only [List.flatten_cons, List.map_cons, List.singleton_append]
    rw [flat_u8 ys (fun z hz => hes z (by simp [hz]))]
theorem s_convert (hT : TabOk P T) (h : Rel P G f C a w) (hd : ∀ d, o.dst = some d → d < G.n) (src dst : TypeId) (x : Operand) (ho : o.op = .convert src dst x)
    (hK : match evo f.env 0 x with
    | .pv (false, [.i _ n]) => match (ti T src).ik, (ti T dst).ik with
      | some _, some k => ∃ r, k.wrap n = r ∧ one K (.i k r)
      | _, _ => False
    | .pv (false, [.lst _ _ e es]) => bif (ti T src).sl && Nat.beq (ti T src).el e && (ti T dst).st && (match (ti T e).ik with | some .u8 => true | _ => false) && Nat.beq (ti T e).sz 1 then
        (∀ xs ∈ es, ∃ n, xs = [.i .u8 n]) ∧ one K (.s (toBA es)) else False
    | _ => False) : o.wp P a w (Post P G f o.dst K) Q := by
  have hx := evo_ok h 0 x
  have ikOf : ∀ t k, (ti T t).ik = some k → P.underlying t = some (.int k) := fun t k hk => by
    have e := (ti_or hT t).resolve_right fun e => by rw [e] at hk; cases hk
    rw [e] at hk; simp only [tiOf] at hk
    split at hk
    · obtain rfl := Option.some.inj hk; assumption
    · cases hk
  split at hK
  · rename_i k0 n e1
    rw [e1] at hx
    have hx := inv_i hx
    split at hK
    · rename_i ks kd e2 e3
      obtain ⟨r, rfl, hK⟩ := hK
      refine wp_val (v := .int kd (kd.wrap n)) ?_ (post_val h hd hK repI)
      unfold execOp; simp [ho, hx, convert, run_underlying (ikOf _ _ e2), run_underlying (ikOf _ _ e3), Conv.intToInt]
    · exact hK.elim
  · rename_i lt lv e es e1
    rw [e1] at hx
    have hb := (bif_true hK).1
    replace hK := (bif_true hK).2
    obtain ⟨hes, hK⟩ := hK
    simp only [Bool.and_eq_true] at hb
    obtain ⟨⟨⟨⟨b1, b2⟩, b3⟩, b4⟩, b5⟩ := hb
    have hsl := ti_sl hT b1
    rw [Nat.eq_of_beq_eq_true b2] at hsl
    have hst : P.underlying dst = some .string := by
      have e := (ti_or hT dst).resolve_right fun e => by rw [e] at b3; cases b3
      rw [e] at b3; simp only [tiOf] at b3
      split at b3 <;> simp_all
    have hu8 : P.underlying e = some (.int .u8) := by
      split at b4
      · exact ikOf _ _ ‹_›
      · cases b4
    have hsz := Nat.eq_of_beq_eq_true b5
    obtain ⟨i, hi, hisz, hce⟩ := info_sz hT (t := e) (by omega)
    obtain ⟨hrep, hl⟩ := inv_lst hx
    rcases hl with ⟨hv, rfl⟩ | ⟨blk, off, cap, hv, hcap⟩ | ⟨ad, cap, hv, rfl⟩
    · refine wp_val (v := .string (toBA [])) ?_ (post_val h hd hK repS)
      unfold execOp
      rw [ho]
      simp only [Sem.run_bind, run_convert_bytes_string w src dst e _ _ _ hsl hu8 hst, hv]
      rfl
    · have hrep := hrep.1
      rw [hv] at hrep
      obtain ⟨_, _, _, hlen, hcl, vs, hvs, hcell⟩ := hrep.lst_inv rfl
      have hflat : es.flatten = (es.map fun xs => match xs with | [.i .u8 n] => n | _ => 0).map fun n => AV.i .u8 n := flat_u8 es hes
      have hvals : vs = (es.map fun xs => match xs with | [.i .u8 n] => n | _ => 0).map (Value.int .u8) := by
        apply List.ext_getElem?
        intro j
        rw [hflat] at hvs
        cases hj : vs[j]? with
        | none =>
          have := List.getElem?_eq_none_iff.1 hj
          have hl := hvs.1
          rw [List.getElem?_eq_none]; simp at hl ⊢; omega
        | some u =>
          have hlt : j < ((es.map fun xs => match xs with | [.i .u8 n] => n | _ => 0).map fun n => AV.i .u8 n).length := by rw [hvs.1]; exact (List.getElem?_eq_some_iff.1 hj).1
          have hq := hvs.2 j _ u (List.getElem?_eq_getElem hlt) hj
          simp only [List.getElem_map] at hq
          cases hq
          rw [List.getElem?_eq_getElem (by simpa using hlt)]
          simp
      have hload := run_loadCells_list (P := P) w ⟨blk, off, none⟩ vs (fun j u hj => (hcell j u hj).1)
      have hvl : vs.length = es.length := by rw [hvals]; simp
      rw [hvl, hvals] at hload
      refine wp_val (v := .string (toBA es)) ?_ (post_val h hd hK repS)
      unfold execOp
      rw [ho]
      simp only [Sem.run_bind, hv, run_convert_bytes_string w src dst e _ _ _ hsl hu8 hst, run_bytesToString w _ _ _ _ hload]
      rfl
    · refine wp_val (v := .string (toBA [])) ?_ (post_val h hd hK repS)
      have hload : (loadCells ad 0).run P w = .ok (([] : List Int).map (Value.int .u8)).toArray w := by simp [loadCells, loadCellsFrom]
      unfold execOp
      rw [ho]
      simp only [Sem.run_bind, hv, run_convert_bytes_string w src dst e _ _ _ hsl hu8 hst, run_bytesToString w _ _ _ _ hload]
      rfl
  · exact hK.elim
end
end Go.Proofs.Ytpeejmolbmhjjaa.Sx
