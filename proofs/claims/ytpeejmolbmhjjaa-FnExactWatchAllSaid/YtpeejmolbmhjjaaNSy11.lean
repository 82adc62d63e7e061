/- The machine does what the reading says: appends; there is no condition beyond those each statement names. -/
import Derived.Test.YtpeejmolbmhjjaaNSy10
namespace Go.Proofs.Ytpeejmolbmhjjaa.Sx
set_option linter.unusedSimpArgs false
set_option linter.unusedVariables false
open Go
section
variable {P : Program} {T : TT} {G : Gd} {f : FS} {C : Cx} {a : Act} {w : World} {o : Oper} {Q : Exit → Act → World → Prop} {K : Dl → Prop} {ok : Nat → Bool}
theorem run_app_grow (t ty e : TypeId) (i : TypeInfo) (z : Value) (ht : P.underlying t = some (.slice e)) (hi : P.info? e = some i) (hz : i.zero = some z)
    (base : Option Addr) (sLen sCap : Nat) (olds : List Value) (hfo : (Builtin.firstCells i.size sLen (.slice base sLen sCap)).run P w.drew = .ok olds.toArray w.drew)
    (ad : Option Addr) (n c : Nat) (news : List Value) (hf : (Builtin.firstCells i.size n (.slice ad n c)).run P w.drew = .ok news.toArray w.drew)
    (hg : sCap < sLen + n) (hb : 0 < i.bytes) (hfit : (sLen + n) * i.bytes ≤ 140737488355328) :
    (Builtin.append_ #[t, t] ty #[.slice base sLen sCap, .slice ad n c]).run P w =
      .ok (.slice (some ⟨w.heap.size, 0, none⟩) (sLen + n) (grownCap w (sLen + n) sCap e))
        (w.drew.alloc (.cells (olds.toArray ++ news.toArray ++ Builtin.zeroCells z.cells (grownCap w (sLen + n) sCap e - (sLen + n))) e)) := by
  have hn : ¬ (sLen + n ≤ sCap) := by omega
  have hle : sLen + n ≤ 140737488355328 := Nat.le_trans (Nat.le_mul_of_pos_right _ hb) hfit
  have h63' : ¬ (9223372036854775807 < ((sLen : Int) + (n : Int))) := by omega
  have h48 := growslice_fits hg hfit
  have h48' : ¬ (281474976710656 < Builtin.nextslicecap (sLen + n) sCap * i.bytes) := by omega
  simp [Builtin.append_, run_underlying ht, sizeOf, typeInfo, zeroValue, hi, hz, Builtin.lenOf, hn, h63', h48', Question.forced, hf, hfo, newRow, grownCap]
  congr 2
  apply Array.ext'
  simp [List.append_assoc]
theorem run_app_room (t ty e ty2 : TypeId) (i : TypeInfo) (ht : P.underlying t = some (.slice e)) (hi : P.info? e = some i)
    (g off sLen sCap : Nat) (cur : Array Value) (hg : w.heap[g]? = some (.cells cur ty2 (0, 0)))
    (ad : Option Addr) (m c : Nat) (news : List Value) (hf : (Builtin.firstCells i.size m (.slice ad m c)).run P w = .ok news.toArray w) (h1 : ∀ u ∈ news, u.oneCell' = true)
    (hroom : sLen + m ≤ sCap) (hfit : off + sLen * i.size + news.length ≤ cur.size) :
    (Builtin.append_ #[t, t] ty #[.slice (some ⟨g, off, none⟩) sLen sCap, .slice ad m c]).run P w =
      .ok (.slice (some ⟨g, off, none⟩) (sLen + m) sCap) (w.setRow g (cur.toList.take (off + sLen * i.size) ++ news ++ cur.toList.drop (off + sLen * i.size + news.length)).toArray) := by
  have hst := run_storeCells_at P g (off + sLen * i.size) ty2 news 0 cur w hg (by simpa using hfit) h1
  simp only [Nat.add_zero] at hst
  simp [Builtin.append_, run_underlying ht, sizeOf, typeInfo, hi, Builtin.lenOf, hroom, hf, add_flat, hst]
theorem run_app_none (t ty e : TypeId) (i : TypeInfo) (ht : P.underlying t = some (.slice e)) (hi : P.info? e = some i)
    (base : Option Addr) (sLen sCap : Nat) (ad : Option Addr) (c : Nat) (hroom : sLen ≤ sCap) :
    (Builtin.append_ #[t, t] ty #[.slice base sLen sCap, .slice ad 0 c]).run P w = .ok (.slice base sLen sCap) w := by
  have hf : (Builtin.firstCells i.size 0 (.slice ad 0 c)).run P w = .ok #[] w := by cases ad <;> simp [Builtin.firstCells, loadCells, loadCellsFrom]
  cases base <;> simp [Builtin.append_, run_underlying ht, sizeOf, typeInfo, hi, Builtin.lenOf, hroom, hf, storeCells]
/-- The cells that a slice shows. -/
theorem show_lst {F : Nat → Nat → Prop} {β : Nat → Nat} {U : Nat → Bool} {t v : Nat} {e : TypeId} {es : List (List AV)} {u : Value} (h : Rep P F β U w (.lst t v e es) u) (e0 : TypeId) (he : e = e0 ∨ es = []) :
    ∃ ad cap vs, u = .slice ad es.length cap ∧ es.length ≤ cap ∧ (ad = none → cap = 0) ∧ (∀ b, ad = some b → es ≠ [] → b.spot = none) ∧ (∀ xs ∈ es, xs.length = P.cellsOf e0) ∧ (∀ xs ∈ es, ∀ x ∈ xs, x.clean = true) ∧ RepL (Rep P F β U w) es.flatten vs ∧ vs.length = es.length * P.cellsOf e0 ∧
      (∀ b, ad = some b → ∀ (j : Nat) (y : Value), vs[j]? = some y → w.cell? ⟨b.block, b.off + j, none⟩ = some y ∧ ¬ F b.block (b.off + j)) ∧
      ∀ w' : World, (∀ b o y, w.cell? ⟨b, o, none⟩ = some y → w'.cell? ⟨b, o, none⟩ = some y) → (Builtin.firstCells (P.cellsOf e0) es.length u).run P w' = .ok vs.toArray w' := by
  cases h with
  | nil => exact ⟨none, 0, [], rfl, Nat.le_refl _, fun _ => rfl, fun b hb => by (cases hb), fun xs h => by (cases h), fun xs h => by (cases h), .nil, by simp, fun b hb => by (cases hb), fun w' _ => by simp [Builtin.firstCells]⟩
  | emp _ _ _ a cap => exact ⟨some a, cap, [], rfl, Nat.zero_le _, (fun hb => by cases hb), (fun b hb he2 => absurd rfl he2), (fun xs h => by cases h), (fun xs h => by cases h), RepL.nil, by simp, (fun b hb j y hy => by simp at hy), (fun w' _ => by simp [Builtin.firstCells, loadCells, loadCellsFrom])⟩
  | lst _ _ _ _ blk off cap vals hcap h1 h2 h3 =>
    obtain ⟨k1, k2, k3, k4, k5, vs, k6, k7⟩ := (Rep.lst t v e es blk off cap vals hcap h1 h2 h3).lst_inv rfl
    have hlen : ∀ xs ∈ es, xs.length = P.cellsOf e0 := fun xs hxs => by
      rcases he with rfl | rfl
      · exact k4 xs hxs
      · cases hxs
    have hvl : vs.length = es.length * P.cellsOf e0 := by rw [← k6.1, flat_len _ es hlen]
    refine ⟨some ⟨blk, off, none⟩, cap, vs, rfl, hcap, fun hb => (by cases hb), fun b hb _ => (by cases hb; rfl), hlen, k5, k6, hvl, fun b hb j y hy => ?_, fun w' hw => ?_⟩
    · obtain rfl := Option.some.inj hb
      have := k7 j y hy
      rw [add_flat] at this
      exact this
    · exact run_firstCells_some w' _ _ _ _ _ vs hvl (fun j y hy => by
        have := (k7 j y hy).1
        rw [add_flat] at this ⊢
        exact hw _ _ _ this)
theorem ut_self {t : Nat} (h : f.ut t = true) : (fun k => Nat.beq k t || f.ut k) = f.ut := by
  funext k
  by_cases hk : k = t
  · subst hk; simp [h]
  · cases hb : Nat.beq k t with
    | false => rfl
    | true => exact absurd (Nat.eq_of_beq_eq_true hb) hk
theorem sixteen {d : Nat} (h : 2 ≤ d) : 16 * d ≠ 0 ∧ 16 * d ≠ 1 := by omega
theorem s_append (hT : TabOk P T) (h : Rel P G f C a w) (hd : ∀ d, o.dst = some d → d < G.n) (c : Call) (x y : Operand) (t0 : TypeId) (ho : o.op = .call c) (hc : c.callee = .builtin .append) (hargs : c.args.toList = [x, y]) (htys : c.argTypes.toList = [t0, t0])
    (ex ey : TypeId) (hK : evAppend T f.cur f.ut (o.dst.getD 0) t0 (evo f.env ex x) (evo f.env ey y) K) : o.wp P a w (Post P G f o.dst K) Q := by
  obtain ⟨t, v, e, es, e1, hK⟩ := isL_inv hK
  obtain ⟨t', v', e', es', e2, hK⟩ := isL_inv hK
  have hx := evo_ok h ex x
  have hy := evo_ok h ey y
  rw [e1] at hx; rw [e2] at hy
  have hx := (RepP.one_inv hx).2
  have hy := (RepP.one_inv hy).2
  obtain ⟨hb, hfit, hK⟩ := bif_true hK
  simp only [Bool.and_eq_true, Bool.or_eq_true] at hb
  obtain ⟨⟨⟨⟨hsl, hok⟩, hbe⟩, hbe'⟩, hbyt⟩ := hb
  have hbyt := ble_le hbyt
  have hu := ti_sl hT hsl
  generalize he0 : (ti T t0).el = e0 at *
  obtain ⟨i, z, hi, hz, hsz, hby, hpos, hce, hzl, hzr⟩ := zero_ok hT h hok
  have hse : e = e0 ∨ (t = 1 ∧ es = []) := hbe.imp (fun hh => Nat.eq_of_beq_eq_true hh) (fun hh => ⟨Nat.eq_of_beq_eq_true hh.1, List.isEmpty_iff.1 hh.2⟩)
  have hse' : e' = e0 ∨ es' = [] := hbe'.imp (fun hh => Nat.eq_of_beq_eq_true hh) (fun hh => List.isEmpty_iff.1 hh)
  obtain ⟨ad, cap, olds, hxv, hcap, hnil, hspot, hlen, hcl, hrep, hvl, hcell, hfirst⟩ := show_lst hx.1 e0 (hse.imp id fun hh => hh.2)
  obtain ⟨ad', cap', news, hyv, hcap', hnil', hspot', hlen', hcl', hrep', hvl', hcell', hfirst'⟩ := show_lst hy.1 e0 hse'
  have htip := hx.2
  rw [hxv] at htip hfirst
  rw [hyv] at hfirst'
  have hsize : i.size = P.cellsOf e0 := by rw [hsz, hce]
  have ha1 : c.args = #[x, y] := by rw [← Array.toArray_toList (xs := c.args), hargs]
  have ha2 : c.argTypes = #[t0, t0] := by rw [← Array.toArray_toList (xs := c.argTypes), htys]
  have run : ∀ u w', (Builtin.append_ #[t0, t0] o.type #[.slice ad es.length cap, .slice ad' es'.length cap']).run P w = .ok u w' → (execOp a.eval o).run P w = .ok (.value u) w' := fun u w' hr => by
    unfold execOp
    simp [ho, resolve, hc, invoke, builtin, ha1, ha2, hxv, hyv, hr]
  have hlen2 : ∀ xs ∈ es ++ es', xs.length = P.cellsOf e0 := fun xs hxs => (List.mem_append.1 hxs).elim (hlen xs) (hlen' xs)
  have hcl2 : ∀ xs ∈ es ++ es', ∀ x ∈ xs, x.clean = true := fun xs hxs => (List.mem_append.1 hxs).elim (hcl xs) (hcl' xs)
  have h1news : ∀ u ∈ news, u.oneCell' = true := hrep'.oneCells
  -- nothing is appended
  have none_case : es' = [] → ∀ (T' v2 : Nat) (f2 : FS) (C2 : Cx), Rel P G f2 C2 a w → f2.ub = f.ub → C2.F = C.F → C2.β = C.β → f.app o.dst { v := .one (.lst T' v2 e0 (es ++ es')), cu := [(T', v2)] } = f2.setE o.dst (.one (.lst T' v2 e0 (es ++ es'))) →
      Tip P C2.τ f2.cur f2.ut (.lst T' v2 e0 es) (.slice ad es.length cap) → K { v := .one (.lst T' v2 e0 (es ++ es')), cu := [(T', v2)] } → o.wp P a w (Post P G f o.dst K) Q := by
    intro hes T' v2 f2 C2 hR hub hF hβ happ htip2 hK
    subst hes
    refine wp_val (run _ _ (run_app_none t0 o.type e0 i hu hi ad es.length cap ad' cap' hcap)) ⟨_, C2, hK, ?_⟩
    rw [happ]
    simp only [List.append_nil]
    refine hR.put o.dst hd _ _ (RepP.one rfl ⟨?_, htip2⟩)
    rw [hub, hF, hβ]
    have hx1 := hx.1
    rw [hxv] at hx1
    rcases hse with rfl | ⟨_, rfl⟩
    · exact hx1.relst
    · cases hx1 with
      | nil => exact .nil _ _ _
      | emp _ _ _ a cap => exact .emp _ _ _ _ _
      | lst => exact Rep.empty _ _ _ _ _ _
  -- a new row
  have grow_case : cap < es.length + es'.length → ∀ (T' v2 : Nat), (f.ut T' = false ∨ ∃ c, f.cur T' = some c ∧ c < v2) → T' ≠ 0 → T' ≠ 1 → K { v := .one (.lst T' v2 e0 (es ++ es')), cu := [(T', v2)] } → o.wp P a w (Post P G f o.dst K) Q := by
    intro hg T' v2 hf h0 h1 hK
    have hr : (Builtin.append_ #[t0, t0] o.type #[.slice ad es.length cap, .slice ad' es'.length cap']).run P w =
      .ok (.slice (some ⟨w.heap.size, 0, none⟩) (es.length + es'.length) (grownCap w (es.length + es'.length) cap e0))
        (w.drew.alloc (.cells (olds.toArray ++ news.toArray ++ Builtin.zeroCells z.cells (grownCap w (es.length + es'.length) cap e0 - (es.length + es'.length))) e0)) := by
      refine run_app_grow t0 o.type e0 i z hu hi hz ad es.length cap olds (by rw [hsize]; exact hfirst w.drew (fun b o y hh => hh)) ad' es'.length cap' news (by rw [hsize]; exact hfirst' w.drew (fun b o y hh => hh)) hg (by omega) (by rw [hby]; exact hfit)
    have hge := grownCap_ge w (es.length + es'.length) cap e0
    have hR := (h.drew).grow T' v2 hf h0 h1 (olds.toArray ++ news.toArray ++ Builtin.zeroCells z.cells (grownCap w (es.length + es'.length) cap e0 - (es.length + es'.length))) e0 ((es.length + es'.length) * P.cellsOf e0)
    refine wp_val (run _ _ hr) (Exists.elim ?_ fun C2 hC2 => ⟨_, C2, hK, hC2⟩)
    rw [app_lin]
    refine ⟨_, hR.put o.dst hd _ _ (RepP.one rfl ⟨?_, ?_⟩)⟩
    · have hl2 : (es ++ es').length = es.length + es'.length := by simp
      rw [← hl2]
      refine Rep.mkLst _ _ e0 (es ++ es') _ 0 _ (olds ++ news) (by rw [hl2]; exact hge) hlen2 hcl2 ?_ (fun j u hj => ⟨?_, ?_⟩)
      · rw [List.flatten_append]
        have keep : ∀ x v, Rep P C.F C.β f.ub w x v → Rep P (fun k o => C.F k o ∨ k = w.drew.heap.size ∧ (es ++ es').length * P.cellsOf e0 ≤ o) C.β f.ub
            (w.drew.alloc (.cells (olds.toArray ++ news.toArray ++ Builtin.zeroCells z.cells (grownCap w (es ++ es').length cap e0 - (es ++ es').length)) e0)) x v := fun x v hh =>
          hh.keep (w := w) (fun b c u hc hF => ⟨cell_alloc (w := w.drew) (show w.drew.cell? _ = _ from hc), fun h2 => h2.elim hF (fun e => by have := cell_lt hc; have e1 := e.1; simp at e1; omega)⟩) (fun b hb => ⟨hb, rfl⟩) rfl (fun _ ⟨a2, t2, h2⟩ => ⟨a2, t2, heap_alloc (w := w.drew) h2⟩)
        exact (hrep.mono keep).append (hrep'.mono keep)
      · have hlt : j < (olds ++ news).length := (List.getElem?_eq_some_iff.1 hj).1
        have : (⟨w.heap.size, 0 + j, none⟩ : Addr) = ⟨w.drew.heap.size, j, none⟩ := by simp
        rw [this, World.cell?_alloc_new]
        rw [Array.getElem?_append_left (by simpa using hlt)]
        simpa using hj
      · intro hF
        have hlt : j < (olds ++ news).length := (List.getElem?_eq_some_iff.1 hj).1
        rw [List.length_append, hvl, hvl', ← Nat.add_mul] at hlt
        rcases hF with hF | ⟨_, hF⟩
        · have := h.lt _ _ hF; omega
        · simp only [List.length_append] at hF; omega
    · refine .inr ⟨by simp, fun cc hcc => ?_⟩
      simp only [if_true, Option.some.injEq] at hcc
      subst hcc
      refine ⟨Nat.le_refl _, fun _ => .inr ⟨w.heap.size, 0, (es.length + es'.length) * P.cellsOf e0, _, if_pos rfl, rfl, by simp, ?_⟩⟩
      have hzs : z.cells.size = P.cellsOf e0 := by rw [hce, ← hzl]; simp
      simp only [Array.size_append, List.size_toArray, size_zeroCells, hzs, hvl, hvl', ← Nat.add_mul]
      rw [Nat.zero_add]
      exact Nat.mul_le_mul_right _ (by omega)
  match t, hK, htip, hse with
  | 0, hK, _, _ => exact hK.elim
  | 1, hK, htip, _ =>
    have hcl1 : cap = es.length := by
      rcases htip with h0 | ⟨_, hh⟩
      · cases h0
      · have hh := hh 0 h.one.1
        rcases hh.2 (Nat.le_zero.1 hh.1) with h1 | ⟨blk, off, hi2, top, h1, _⟩
        · exact h1
        · rw [h.one.2.1] at h1; cases h1
    simp only at hK
    cases hb : f.ut (16 * o.dst.getD 0) || Nat.ble (o.dst.getD 0) 1 with
    | true => rw [hb] at hK; exact hK.elim
    | false =>
      rw [hb] at hK
      simp only [cond_false] at hK
      simp only [Bool.or_eq_false_iff] at hb
      have hd2 : 2 ≤ o.dst.getD 0 := by
        have h2 := hb.2
        rcases Nat.lt_or_ge 1 (o.dst.getD 0) with h3 | h3
        · exact h3
        · rw [Nat.ble_eq_true_of_le h3] at h2; cases h2
      by_cases hn : es' = []
      · refine none_case hn (16 * o.dst.getD 0) 0 _ _ (h.lin _ hb.1 (sixteen hd2).1) rfl rfl rfl (app_lin _ _ _ _ _) (.inr ⟨by simp, fun cc hcc => ?_⟩) hK
        simp only [if_true, Option.some.injEq] at hcc
        subst hcc
        exact ⟨Nat.le_refl _, fun _ => .inl hcl1⟩
      · have hpos' : 0 < es'.length := List.length_pos_iff.2 hn
        exact grow_case (by omega) (16 * o.dst.getD 0) 0 (.inl hb.1) (sixteen hd2).1 (sixteen hd2).2 hK
  | t + 2, hK, htip, hse =>
    have hee : e = e0 := hse.resolve_right (fun hh => by omega)
    subst hee
    simp only at hK
    split at hK
    · rename_i cc hcur
      obtain ⟨_, rfl, hK⟩ := hK
      have hut : f.ut (t + 2) = true := h.cut _ _ hcur
      have hclaim : cap = es.length ∨ ∃ blk off hi top, C.τ (t + 2) = some (blk, hi, top) ∧ ad = some ⟨blk, off, none⟩ ∧ off + es.length * P.cellsOf e = hi ∧ off + cap * P.cellsOf e ≤ top := by
        rcases htip with h0 | ⟨_, hh⟩
        · omega
        · exact (hh v hcur).2 rfl
      have happ : ∀ z, f.app o.dst { v := z, cu := [(t + 2, v + 1)] } = FS.setE { f with cur := fun k => if k = t + 2 then some (v + 1) else f.cur k } o.dst z := fun z => by
        rw [app_lin, ut_self hut]
      by_cases hn : es' = []
      · refine none_case hn (t + 2) (v + 1) _ _ (h.bump (t + 2) v hcur (by omega)) rfl rfl rfl (happ _) (.inr ⟨hut, fun cc hcc => ?_⟩) hK
        simp only [if_true, Option.some.injEq] at hcc
        subst hcc
        exact ⟨Nat.le_refl _, fun _ => hclaim⟩
      · have hpos' : 0 < es'.length := List.length_pos_iff.2 hn
        by_cases hroom : es.length + es'.length ≤ cap
        · rcases hclaim with h1 | ⟨blk, off, hi2, top, h1, rfl, h3, h4⟩
          · omega
          obtain ⟨⟨arr, ty, hg, htop⟩, _⟩ := h.tok (t + 2) v blk hi2 top hcur h1
          have hfit2 : off + es.length * i.size + news.length ≤ arr.size := by
            rw [hsize, hvl', htop, Nat.add_assoc, ← Nat.add_mul]
            exact Nat.le_trans (Nat.add_le_add_left (Nat.mul_le_mul_right _ hroom) _) h4
          have hr := run_app_room (P := P) (w := w) t0 o.type e ty i hu hi blk off es.length cap arr hg ad' es'.length cap' news (by rw [hsize]; exact hfirst' w (fun b o y hh => hh)) h1news hroom hfit2
          have hhi : off + es.length * i.size = hi2 := by rw [hsize]; exact h3
          rw [hhi] at hr hfit2
          have hsame : ∀ j : Nat, j < hi2 → (arr.toList.take hi2 ++ news ++ arr.toList.drop (hi2 + news.length)).toArray[j]? = arr[j]? := fun j hj => by
            simp only [List.getElem?_toArray, List.append_assoc]
            rw [List.getElem?_append_left (by simp; omega), List.getElem?_take, if_pos hj]
            simp
          have hR := h.room (t + 2) v blk hi2 top hcur h1 (by omega) (by omega) arr ty hg (arr.toList.take hi2 ++ news ++ arr.toList.drop (hi2 + news.length)).toArray (hi2 + news.length) (by omega) (by simp; omega) hsame
          refine wp_val (run _ _ hr) (Exists.elim ?_ fun C2 hC2 => ⟨_, C2, hK, hC2⟩)
          rw [happ]
          refine ⟨_, hR.put o.dst hd _ _ (RepP.one rfl ⟨?_, ?_⟩)⟩
          · have hl2 : (es ++ es').length = es.length + es'.length := by simp
            rw [← hl2]
            have keepc : ∀ b o u, w.cell? ⟨b, o, none⟩ = some u → ¬ C.F b o → (w.setRow blk (arr.toList.take hi2 ++ news ++ arr.toList.drop (hi2 + news.length)).toArray).cell? ⟨b, o, none⟩ = some u ∧ ¬ (C.F b o ∧ ¬ (b = blk ∧ o < hi2 + news.length)) := fun b o u hc hF => ⟨by
              by_cases hk : b = blk
              · subst hk
                rw [cell_setRow_same _ _ _ arr _ _ _ hg, hsame o (Nat.lt_of_not_le fun hle => hF ((h.tok (t + 2) v b hi2 top hcur h1).2.2.1 o hle)), ← cell_of_row w b o arr ty (0, 0) hg]; exact hc
              · rw [cell_setRow_other _ _ _ _ hk]; exact hc, fun hh => hF hh.1⟩
            have keep : ∀ x v, Rep P C.F C.β f.ub w x v → Rep P (fun b o => C.F b o ∧ ¬ (b = blk ∧ o < hi2 + news.length)) C.β f.ub (w.setRow blk (arr.toList.take hi2 ++ news ++ arr.toList.drop (hi2 + news.length)).toArray) x v := fun x v hh =>
              hh.keep keepc (fun b hb => ⟨hb, rfl⟩) rfl (Plain.setRow w _ _ hg)
            refine Rep.mkLst _ _ e (es ++ es') blk off cap (olds ++ news) (by rw [hl2]; exact hroom) hlen2 hcl2 (by rw [List.flatten_append]; exact (hrep.mono keep).append (hrep'.mono keep)) (fun j u hj => ?_)
            rw [List.getElem?_append] at hj
            split at hj
            · exact keepc _ _ _ (hcell _ rfl j u hj).1 (hcell _ rfl j u hj).2
            · rename_i hjl
              have hlt : j - olds.length < news.length := (List.getElem?_eq_some_iff.1 hj).1
              have hoff : off + j = hi2 + (j - olds.length) := by rw [← h3, ← hvl]; omega
              refine ⟨?_, fun hh => hh.2 ⟨rfl, by omega⟩⟩
              rw [cell_setRow_same _ _ _ arr _ _ _ hg, hoff]
              simp only [List.getElem?_toArray, List.append_assoc]
              rw [List.getElem?_append_right (by simp; omega)]
              have : hi2 + (j - olds.length) - (arr.toList.take hi2).length = j - olds.length := by simp; omega
              rw [this, List.getElem?_append_left hlt]
              exact hj
          · refine .inr ⟨hut, fun cc hcc => ?_⟩
            simp only [if_true, Option.some.injEq] at hcc
            subst hcc
            refine ⟨Nat.le_refl _, fun _ => .inr ⟨blk, off, hi2 + news.length, top, if_pos rfl, rfl, ?_, h4⟩⟩
            rw [List.length_append, Nat.add_mul, ← Nat.add_assoc, h3, hvl']
        · exact grow_case (by omega) (t + 2) (v + 1) (.inr ⟨v, hcur, by omega⟩) (by omega) (by omega) hK
    · exact hK.elim
end
end Go.Proofs.Ytpeejmolbmhjjaa.Sx
