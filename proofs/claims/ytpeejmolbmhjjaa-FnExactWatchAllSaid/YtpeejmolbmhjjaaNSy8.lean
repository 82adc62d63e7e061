/- The machine does what the reading says: cuts, lengths, new variables, parts laid together; there is no condition beyond those each statement names. -/
import Derived.Test.YtpeejmolbmhjjaaNSy7
namespace Go.Proofs.Ytpeejmolbmhjjaa.Sx
set_option linter.unusedSimpArgs false
set_option linter.unusedVariables false
open Go
section
variable {P : Program} {T : TT} {G : Gd} {f : FS} {C : Cx} {a : Act} {w : World} {o : Oper} {Q : Exit → Act → World → Prop} {K : Dl → Prop} {ok : Nat → Bool}
theorem evIdx_inv {env : Nat → TV} {x : Option Operand} {K : Option Int → Prop} (h : evIdx env x K) : (x = none ∧ K none) ∨ ∃ y k n, x = some y ∧ evo env 0 y = .pv (false, [.i k n]) ∧ K (some n) := by
  cases x with
  | none => exact .inl ⟨rfl, h⟩
  | some y => obtain ⟨k, n, h1, h2⟩ := isI_inv h; exact .inr ⟨y, k, n, rfl, h1, h2⟩
theorem run_sliceBound {k : IntKind} {n : Int} {y : Nat} {code : BoundsCode} (h0 : 0 ≤ n) (h1 : n ≤ y) : (Instr.sliceBound (.int k n) y code).run P w = .ok n.toNat w := by
  simp [Instr.sliceBound, asIntOf, h0, h1]
theorem Rep.empty {F : Nat → Nat → Prop} {β : Nat → Nat} {U : Nat → Bool} (t v : Nat) (e : TypeId) (blk off cap : Nat) : Rep P F β U w (.lst t v e []) (.slice (some ⟨blk, off, none⟩) 0 cap) :=
  .lst t v e [] blk off cap (fun _ _ => undef) (Nat.zero_le _) (fun _ h => by cases h) (fun j c xs x h => by simp at h) (fun j c xs x h => by simp at h)
theorem Rep.cut {F : Nat → Nat → Prop} {β : Nat → Nat} {U : Nat → Bool} {t v t' v' : Nat} {e : TypeId} {es : List (List AV)} {blk off len cap : Nat} (h : Rep P F β U w (.lst t v e es) (.slice (some ⟨blk, off, none⟩) len cap))
    (l q cap' : Nat) (hlq : l ≤ q) (hq : q ≤ es.length) (hc : q - l ≤ cap') : Rep P F β U w (.lst t' v' e ((es.take q).drop l)) (.slice (some ⟨blk, off + l * P.cellsOf e, none⟩) (q - l) cap') := by
  have hlen : ((es.take q).drop l).length = q - l := by simp; omega
  have get : ∀ j xs, ((es.take q).drop l)[j]? = some xs → es[l + j]? = some xs := fun j xs hj => by
    rw [List.getElem?_drop, List.getElem?_take] at hj
    split at hj
    · exact hj
    · cases hj
  cases h with
  | emp =>
    have h0 : ((([] : List (List AV)).take q).drop l) = [] := by simp
    rw [h0] at hlen ⊢
    rw [← hlen]
    exact .emp _ _ _ _ _
  | lst _ _ _ _ _ _ _ vals h1 h2 h3 h4 =>
    rw [← hlen]
    refine .lst _ _ _ _ _ _ _ (fun j c => vals (l + j) c) (by rw [hlen]; exact hc) (fun xs hxs => h2 xs (List.mem_of_mem_take (List.mem_of_mem_drop hxs))) (fun j c xs x hj hx => ?_) (fun j c xs x hj hx => h4 _ c xs x (get j xs hj) hx)
    have := h3 (l + j) c xs x (get j xs hj) hx
    rw [show off + l * P.cellsOf e + (j * P.cellsOf e + c) = off + ((l + j) * P.cellsOf e + c) by rw [Nat.add_mul]; omega]
    exact this
theorem s_slice (hT : TabOk P T) (h : Rel P G f C a w) (hd : ∀ d, o.dst = some d → d < G.n) (t : TypeId) (x : Operand) (lo hi mx : Option Operand) (ho : o.op = .slice t x lo hi mx)
    (hK : evIdx f.env lo fun l => evIdx f.env hi fun q => evIdx f.env mx fun m => evSlice T (ti T t) (evo f.env 0 x) l q m K) : o.wp P a w (Post P G f o.dst K) Q := by
  have hx := evo_ok h 0 x
  -- the cut itself
  have run : ∀ (ad : Option Addr) (len cap : Nat) (e : TypeId) (i : TypeInfo), P.underlying t = some (.slice e) → P.info? e = some i → a.eval x = .slice ad len cap →
      ∀ l q m, (Instr.sliceBounds true len cap (lo.map a.eval) (hi.map a.eval) (mx.map a.eval)).run P w = .ok (l, q, m) w →
      (execOp a.eval o).run P w = .ok (.value (.slice (if m = l then ad else ad.map (·.add (l * i.size))) (q - l) (m - l))) w := by
    intro ad len cap e i hu hi' hv l q m hb
    unfold execOp
    simp only [ho, hv, Instr.sliceAt, Sem.run_bind, run_underlying hu, Result.andThen_ok, Instr.slice, hb, run_sizeOf hi', Sem.run_pure]
  have idx : ∀ (y : Operand) (k : IntKind) (n : Int), evo f.env 0 y = .pv (false, [.i k n]) → a.eval y = .int k n := fun y k n hy => by
    have := evo_ok h 0 y; rw [hy] at this; exact inv_i this
  -- the shared end
  have fin : ∀ (e : TypeId) (lt lv : Nat) (es : List (List AV)), evo f.env 0 x = .pv (false, [.lst lt lv e es]) → P.underlying t = some (.slice e) → 1 ≤ (ti T e).sz → ∀ (l q : Nat) (m : Nat → Nat → Nat) (t' v' : Nat), l ≤ q → q ≤ es.length →
      (∀ len cap, len ≤ cap → q ≤ len → (len = es.length) → (Instr.sliceBounds true len cap (lo.map a.eval) (hi.map a.eval) (mx.map a.eval)).run P w = .ok (l, q, m len cap) w ∧ q ≤ m len cap ∧ m len cap ≤ cap) →
      (t' = 0 ∨ (t' = lt ∧ v' = lv ∧ q = es.length ∧ ∀ len cap, m len cap = cap)) → one K (.lst t' v' e ((es.take q).drop l)) → o.wp P a w (Post P G f o.dst K) Q := by
    intro e lt lv es e1 hu hsz l q m t' v' hlq hq hb ht hK
    obtain ⟨i, hi', hisz, hce⟩ := info_sz hT hsz
    have hx2 := hx
    rw [e1] at hx2
    obtain ⟨hrep, hl⟩ := inv_lst hx2
    rcases hl with ⟨hv, rfl⟩ | ⟨blk, off, cap, hv, hcap⟩ | ⟨ad, cap, hv, rfl⟩
    · have hq0 : q = 0 := by simpa using hq
      subst hq0
      have hl0 : l = 0 := by omega
      subst hl0
      obtain ⟨hb1, hb2, hb3⟩ := hb 0 0 (Nat.le_refl _) (Nat.le_refl _) rfl
      have hm : m 0 0 = 0 := by omega
      refine wp_val (run none 0 0 e i hu hi' hv 0 0 _ hb1) ?_
      rw [hm]
      simp only [if_true, Nat.sub_self]
      refine post_val h hd hK (RepP.one rfl ⟨.nil _ _ _, ?_⟩)
      rcases ht with rfl | ⟨rfl, rfl, _, _⟩
      · exact .inl rfl
      · have := hrep.2; rw [hv] at this; exact this
    · obtain ⟨hb1, hb2, hb3⟩ := hb es.length cap hcap hq rfl
      refine wp_val (run _ _ _ e i hu hi' hv l q _ hb1) ?_
      have hadd : (some (⟨blk, off, none⟩ : Addr)).map (·.add (l * i.size)) = some ⟨blk, off + l * P.cellsOf e, none⟩ := by simp [add_flat, hisz, hce]
      rw [hadd]
      have hr := hrep.1
      rw [hv] at hr
      refine post_val h hd hK (RepP.one rfl ⟨?_, ?_⟩)
      · split
        · rename_i hml
          have hql : q = l := by omega
          subst hql
          rw [List.drop_eq_nil_of_le (by simp; omega), Nat.sub_self]
          exact Rep.empty _ _ _ _ _ _
        · exact hr.cut l q _ hlq hq (by omega)
      · rcases ht with rfl | ⟨rfl, rfl, hqe, hm⟩
        · exact .inl rfl
        · have htip := hrep.2
          rw [hv] at htip
          rw [hm] at hb1 hb2 hb3 ⊢
          have hdl : ((es.take q).drop l).length = es.length - l := by rw [hqe]; simp
          simp only [Tip] at htip ⊢
          rcases htip with h0 | ⟨hV, hc⟩
          · exact .inl h0
          · refine .inr ⟨hV, fun c hcur => ⟨(hc c hcur).1, fun hvc => ?_⟩⟩
            rcases (hc c hcur).2 hvc with h1 | ⟨blk', off', hi2, top, h1, h2, h3, h4⟩
            · left; rw [hdl, h1]
            · obtain ⟨rfl, rfl⟩ : blk = blk' ∧ off = off' := by injection h2 with h2; injection h2 with a b; exact ⟨a, b⟩
              by_cases hml : cap = l
              · left; rw [hdl, hml]; omega
              · right
                refine ⟨blk, off + l * P.cellsOf e, hi2, top, h1, by rw [if_neg hml], ?_, ?_⟩
                · rw [hdl, ← h3, Nat.add_assoc, ← Nat.add_mul]; congr 2; omega
                · rw [Nat.add_assoc, ← Nat.add_mul, show l + (cap - l) = cap by omega]; exact h4
    · have hq0 : q = 0 := by simpa using hq
      subst hq0
      have hl0 : l = 0 := by omega
      subst hl0
      obtain ⟨hb1, hb2, hb3⟩ := hb 0 cap (Nat.zero_le _) (Nat.le_refl _) rfl
      refine wp_val (run (some ad) 0 cap e i hu hi' hv 0 0 _ hb1) ?_
      have hv2 : (.slice (if m 0 cap = 0 then some ad else (some ad).map (·.add (0 * i.size))) (0 - 0) (m 0 cap - 0) : Value) = .slice (some (if m 0 cap = 0 then ad else ad.add (0 * i.size))) 0 (m 0 cap) := by
        split <;> rfl
      rw [hv2]
      refine post_val h hd hK (RepP.one rfl ⟨.emp _ _ _ _ _, ?_⟩)
      rcases ht with rfl | ⟨rfl, rfl, _, hm⟩
      · exact .inl rfl
      · have htip := hrep.2
        rw [hv] at htip
        rw [hm]
        simp only [Tip] at htip ⊢
        rcases htip with h0 | ⟨hV, hc⟩
        · exact .inl h0
        · refine .inr ⟨hV, fun c hcur => ⟨(hc c hcur).1, fun hvc => ?_⟩⟩
          rcases (hc c hcur).2 hvc with h1 | ⟨blk', off', hi2, top, h1, h2, h3, h4⟩
          · left; simpa using h1
          · by_cases hcap0 : cap = 0
            · left; simpa using hcap0
            · right
              refine ⟨blk', off', hi2, top, h1, ?_, h3, h4⟩
              obtain rfl := Option.some.inj h2
              rw [if_neg hcap0, add_flat]; simp
  have spl : ∀ (l' q' m' : Option Int), evSlice T (ti T t) (evo f.env 0 x) l' q' m' K → ∃ lt lv e es, evo f.env 0 x = .pv (false, [.lst lt lv e es]) ∧ P.underlying t = some (.slice e) ∧ 1 ≤ (ti T e).sz ∧
      match q', m' with
      | none, none => match l' with
        | none => False
        | some l => 0 ≤ l ∧ l ≤ es.length ∧ one K (.lst lt lv e (es.drop l.toNat))
      | some q, none => 0 ≤ q ∧ q ≤ es.length ∧ match l' with
        | none => one K (.lst 0 0 e (es.take q.toNat))
        | some l => 0 ≤ l ∧ l ≤ q ∧ one K (.lst 0 0 e ((es.take q.toNat).drop l.toNat))
      | some q, some z => z = q ∧ 0 ≤ q ∧ q ≤ es.length ∧ match l' with
        | none => one K (.lst 0 0 e (es.take q.toNat))
        | some _ => False
      | none, some _ => False := by
    intro l' q' m' hE
    obtain ⟨lt, lv, e, es, e1, hE⟩ := isL_inv hE
    have hb := (bif_true hE).1
    replace hE := (bif_true hE).2
    simp only [Bool.and_eq_true] at hb
    have hu := ti_sl hT hb.1.1
    rw [Nat.eq_of_beq_eq_true hb.1.2] at hu
    exact ⟨lt, lv, e, es, e1, hu, ble_le hb.2, hE⟩
  rcases evIdx_inv hK with ⟨rfl, hK1⟩ | ⟨y1, k1, n1, rfl, v1, hK1⟩ <;> rcases evIdx_inv hK1 with ⟨rfl, hK2⟩ | ⟨y2, k2, n2, rfl, v2, hK2⟩ <;> rcases evIdx_inv hK2 with ⟨rfl, hK3⟩ | ⟨y3, k3, n3, rfl, v3, hK3⟩ <;>
    obtain ⟨lt, lv, e, es, e1, hu, hsz, hE⟩ := spl _ _ _ hK3 <;> simp only at hE
  · obtain ⟨h1, h2, hE⟩ := hE
    refine fin e lt lv es e1 hu hsz 0 n2.toNat (fun _ cap => cap) 0 0 (Nat.zero_le _) (by omega) (fun len cap hc hq hle => ⟨?_, by omega, Nat.le_refl _⟩) (.inl rfl) (by simpa using hE)
    simp [Instr.sliceBounds, idx _ _ _ v2, run_sliceBound (P := P) (w := w) (k := k2) (n := n2) (y := cap) h1 (by omega)]
  · obtain ⟨rfl, h1, h2, hE⟩ := hE
    refine fin e lt lv es e1 hu hsz 0 n3.toNat (fun _ cap => n3.toNat) 0 0 (Nat.zero_le _) (by omega) (fun len cap hc hq hle => ⟨?_, by omega, by omega⟩) (.inl rfl) (by simpa using hE)
    simp [Instr.sliceBounds, idx _ _ _ v2, idx _ _ _ v3, run_sliceBound (P := P) (w := w) (k := k2) (n := n3) (y := n3.toNat) h1 (by omega), run_sliceBound (P := P) (w := w) (k := k3) (n := n3) (y := cap) h1 (by omega)]
  · obtain ⟨h1, h2, hE⟩ := hE
    refine fin e lt lv es e1 hu hsz n1.toNat es.length (fun _ cap => cap) lt lv (by omega) (Nat.le_refl _) (fun len cap hc hq hle => ⟨?_, by omega, Nat.le_refl _⟩) (.inr ⟨rfl, rfl, rfl, fun _ _ => rfl⟩) (by simpa using hE)
    subst hle
    simp [Instr.sliceBounds, idx _ _ _ v1, run_sliceBound (P := P) (w := w) (k := k1) (n := n1) (y := es.length) h1 (by omega)]
  · obtain ⟨h1, h2, h3, h4, hE⟩ := hE
    refine fin e lt lv es e1 hu hsz n1.toNat n2.toNat (fun _ cap => cap) 0 0 (by omega) (by omega) (fun len cap hc hq hle => ⟨?_, by omega, Nat.le_refl _⟩) (.inl rfl) hE
    simp [Instr.sliceBounds, idx _ _ _ v1, idx _ _ _ v2, run_sliceBound (P := P) (w := w) (k := k2) (n := n2) (y := cap) h1 (by omega), run_sliceBound (P := P) (w := w) (k := k1) (n := n1) (y := n2.toNat) h3 (by omega)]
  · exact hE.2.2.2.elim
theorem s_len (hT : TabOk P T) (h : Rel P G f C a w) (hd : ∀ d, o.dst = some d → d < G.n) (c : Call) (x : Operand) (t : TypeId) (r : List TypeId) (ho : o.op = .call c) (hc : c.callee = .builtin .len) (hx : c.args.toList = [x]) (ht : c.argTypes.toList = t :: r)
    (hK : isL (evo f.env 0 x) fun _ _ _ es => bif (ti T t).sl then one K (.i .i64 es.length) else False) : o.wp P a w (Post P G f o.dst K) Q := by
  obtain ⟨lt, lv, e, es, e1, hK⟩ := isL_inv hK
  obtain ⟨hb, hK⟩ := bif_true hK
  have hu := ti_sl hT hb
  have hv := evo_ok h 0 x
  rw [e1] at hv
  obtain ⟨hrep, hl⟩ := inv_lst hv
  have hval : ∃ ad cap, a.eval x = .slice ad es.length cap := by
    rcases hl with ⟨hv1, hes⟩ | ⟨blk, off, cap, hv1, _⟩ | ⟨ad, cap, hv1, hes⟩
    · exact ⟨none, 0, by rw [hv1, hes]; rfl⟩
    · exact ⟨_, _, hv1⟩
    · exact ⟨_, _, by rw [hv1, hes]; rfl⟩
  obtain ⟨ad, cap, hval⟩ := hval
  refine wp_val (v := .int .i64 es.length) ?_ (post_val h hd hK repI)
  have hargs : c.args = #[x] := by rw [← Array.toArray_toList (xs := c.args), hx]
  have hty : c.argTypes[0]? = some t := by rw [← Array.getElem?_toList, ht]; rfl
  unfold execOp
  simp [ho, resolve, hc, invoke, builtin, hargs, Builtin.len_, hty, run_underlying hu, hval, goInt]
theorem run_min : ∀ (k : IntKind) (xs : List Int) (x : Int), (List.foldlM Builtin.min2 (.int k x) (xs.map (Value.int k))).run P w = .ok (.int k (minList xs x)) w
  | k, [], x => by simp [minList]
  | k, y :: r, x => by simp [Builtin.min2, minList, run_min k r]
theorem evInts_ok (h : Rel P G f C a w) : ∀ (l : List Operand) (K : IntKind → List Int → Prop), evInts (l.map (evo f.env 0)) K → ∃ k xs, l.map a.eval = xs.map (Value.int k) ∧ K k xs
  | [], K, hK => hK.elim
  | [x], K, hK => by
    obtain ⟨k, n, e1, hK⟩ := isI_inv hK
    have hv := evo_ok h 0 x
    rw [e1] at hv
    exact ⟨k, [n], by simp [inv_i hv], hK⟩
  | x :: y :: r, K, hK => by
    obtain ⟨k, n, e1, hK⟩ := isI_inv hK
    have hv := evo_ok h 0 x
    rw [e1] at hv
    obtain ⟨k', xs, h1, h2⟩ := evInts_ok h (y :: r) _ hK
    obtain ⟨hke, h3⟩ := ikEq_true h2
    subst hke
    exact ⟨k, n :: xs, (List.cons_eq_cons.2 ⟨inv_i hv, h1⟩ : a.eval x :: List.map a.eval (y :: r) = Value.int k n :: xs.map (Value.int k)), h3⟩
theorem s_min (h : Rel P G f C a w) (hd : ∀ d, o.dst = some d → d < G.n) (c : Call) (ho : o.op = .call c) (hc : c.callee = .builtin .min)
    (hK : evInts (c.args.toList.map (evo f.env 0)) fun k xs => match xs with | n :: r => one K (.i k (minList r n)) | [] => False) : o.wp P a w (Post P G f o.dst K) Q := by
  obtain ⟨k, xs, hxs, hK⟩ := evInts_ok h c.args.toList _ hK
  cases xs with
  | nil => exact hK.elim
  | cons n r =>
    refine wp_val (v := .int k (minList r n)) ?_ (post_val h hd hK repI)
    have hargs : (c.args.map a.eval).toList = .int k n :: r.map (Value.int k) := by rw [Array.toList_map, hxs]; rfl
    unfold execOp
    simp only [ho, resolve, hc, Sem.run_bind, Sem.run_pure, Result.andThen_ok, invoke, builtin, Builtin.min_, hargs, run_min]
end
end Go.Proofs.Ytpeejmolbmhjjaa.Sx
