/- Regions whose order Go leaves open: what an operation looks at and what it turns; there is no condition beyond those each statement names. -/
import Derived.Test.YtpeejmolbmhjjaaNSy14
namespace Go.Proofs.Ytpeejmolbmhjjaa.Sx
set_option linter.unusedSimpArgs false
set_option linter.unusedVariables false
open Go
def isCallF (o : Oper) : Bool := match o.op with | .call c => (match c.callee with | .value _ => true | _ => false) | _ => false
def isApp (o : Oper) : Bool := match o.op with | .call c => (match c.callee with | .builtin .append => true | _ => false) | _ => false
def isNew (o : Oper) : Bool := match o.op with | .alloc _ | .box _ _ | .makeSlice _ _ _ => true | _ => false
def isWr (o : Oper) : Bool := match o.op with | .store _ _ _ => true | _ => isCallF o || isNew o
def setsCu (o : Oper) : Bool := match o.op with | .buildSlice _ _ _ | .makeSlice _ _ _ | .assign _ => true | _ => isCallF o || isApp o
/-- What an operation may turn. -/
structure Fp (f : FS) (o : Oper) (ok : Nat → Bool) (d : Dl) : Prop where
  mmk : ∀ x ∈ d.mm, ok x.1 = true ∨ (x.1 = o.dst.getD 0 ∧ (isNew o || isCallF o) = true)
  mm0 : isWr o = false → d.mm = []
  nbk : ∀ x ∈ d.nb, x = o.dst.getD 0 ∧ (isNew o || isCallF o) = true
  cuk : ∀ x ∈ d.cu, (16 * o.dst.getD 0 ≤ x.1 ∧ x.1 < 16 * o.dst.getD 0 + 16 ∧ f.ut x.1 = false ∧ setsCu o = true ∧ (isCallF o = true ∨ 2 ≤ o.dst.getD 0)) ∨ (isApp o = true ∧ f.ut x.1 = true)
theorem Fp.val {f : FS} {o : Oper} {ok : Nat → Bool} {v : TV} : Fp f o ok { v := v } :=
  ⟨fun x hx => by (cases hx), fun _ => rfl, fun x hx => by (cases hx), fun x hx => by (cases hx)⟩
section
variable {P : Program} {T : TT} {f f' : FS} {o : Oper} {ok : Nat → Bool} {K : Dl → Prop}
/-- It comes to one thing, wherever it comes to anything. -/
def Det (f : FS) (o : Oper) (ok : Nat → Bool) (X : (Dl → Prop) → Prop) (K : Dl → Prop) : Prop := ∃ d, K d ∧ Fp f o ok d ∧ ∀ K' : Dl → Prop, K' d → X K'
theorem Det.val {X : (Dl → Prop) → Prop} {v : TV} (hK : K { v := v }) (h : ∀ K' : Dl → Prop, K' { v := v } → X K') : Det f o ok X K := ⟨_, hK, .val, h⟩
theorem Det.back {X Y : (Dl → Prop) → Prop} (h : Det f o ok X K) (hX : ∀ K', X K' → Y K') : Det f o ok Y K := let ⟨d, h1, h2, h3⟩ := h; ⟨d, h1, h2, fun K' hK' => hX K' (h3 K' hK')⟩
theorem fresh_det (hs : setsCu o = true) {e : TypeId} {es : List (List AV)} (hK : fresh f.ut (o.dst.getD 0) e es K) : Det f o ok (fun K' => fresh f.ut (o.dst.getD 0) e es K') K := by
  unfold fresh at hK
  cases hb : f.ut (16 * o.dst.getD 0) || Nat.ble (o.dst.getD 0) 1 with
  | true => rw [hb] at hK; exact Det.val hK fun K' h => by unfold fresh; rw [hb]; exact h
  | false =>
    rw [hb] at hK
    simp only [Bool.or_eq_false_iff] at hb
    have hd2 : 2 ≤ o.dst.getD 0 := by
      have h2 := hb.2
      rcases Nat.lt_or_ge 1 (o.dst.getD 0) with h3 | h3
      · exact h3
      · rw [Nat.ble_eq_true_of_le h3] at h2; cases h2
    refine ⟨_, hK, ⟨fun x hx => by (cases hx), fun _ => rfl, fun x hx => by (cases hx), fun x hx => ?_⟩, fun K' h => by unfold fresh; rw [show (f.ut (16 * o.dst.getD 0) || Nat.ble (o.dst.getD 0) 1) = false by rw [hb.1, hb.2]; rfl]; exact h⟩
    simp only [List.mem_singleton] at hx
    subst hx
    exact .inl ⟨Nat.le_refl _, Nat.lt_add_of_pos_right (by decide), hb.1, hs, .inr hd2⟩
theorem evFill_det {env : Nat → TV} {place : Nat → Option (Nat × TypeId)} : ∀ {parts : List (Nat × Operand)} {cs : List AV} {K : List AV → Prop}, evFill env place T cs K parts → ∃ l, K l ∧ ∀ K' : List AV → Prop, K' l → evFill env place T cs K' parts
  | [], cs, K, h => ⟨cs, h, fun _ h => h⟩
  | (j, x) :: r, cs, K, h => by
    unfold evFill at h
    split at h
    · exact h.elim
    · rename_i off ty hpl
      split at h
      · rename_i p hev
        obtain ⟨hb, h⟩ := bif_true h
        obtain ⟨l, h1, h2⟩ := evFill_det h
        refine ⟨l, h1, fun K' hK' => ?_⟩
        unfold evFill
        simp only [hpl, hev, hb, cond_true]
        exact h2 K' hK'
      · exact h.elim
theorem evIdx_det {env : Nat → TV} {x : Option Operand} {K : Option Int → Prop} (h : evIdx env x K) : ∃ l, K l ∧ ∀ K' : Option Int → Prop, K' l → evIdx env x K' := by
  rcases evIdx_inv h with ⟨rfl, h⟩ | ⟨y, k, n, rfl, h1, h2⟩
  · exact ⟨none, h, fun _ h => h⟩
  · exact ⟨some n, h2, fun K' h => by show isI (evo env 0 y) _; rw [h1]; exact h⟩
theorem isI_det {x : TV} {K : IntKind → Int → Prop} (h : isI x K) : ∃ k n, K k n ∧ ∀ K' : IntKind → Int → Prop, K' k n → isI x K' := by
  obtain ⟨k, n, rfl, h⟩ := isI_inv h
  exact ⟨k, n, h, fun _ h => h⟩
theorem evInts_det : ∀ {l : List TV} {K : IntKind → List Int → Prop}, evInts l K → ∃ k xs, K k xs ∧ ∀ K' : IntKind → List Int → Prop, K' k xs → evInts l K'
  | [], K, h => h.elim
  | [x], K, h => by
    obtain ⟨k, n, rfl, h⟩ := isI_inv h
    exact ⟨k, [n], h, fun _ h => h⟩
  | x :: y :: r, K, h => by
    obtain ⟨k, n, rfl, h⟩ := isI_inv h
    obtain ⟨k', xs, h1, h2⟩ := evInts_det (l := y :: r) h
    obtain ⟨hk, h1⟩ := bif_true h1
    exact ⟨k, n :: xs, h1, fun K' h => h2 _ (by rw [hk]; exact h)⟩
theorem eqI_det : ∀ {cs ds : List AV} {K : Bool → Prop}, eqI cs ds K → ∃ r, K r ∧ ∀ K' : Bool → Prop, K' r → eqI cs ds K'
  | [], [], K, h => ⟨true, h, fun _ h => h⟩
  | [], d :: ds, K, h => h.elim
  | c :: cs, [], K, h => by cases c <;> exact h.elim
  | c :: cs, d :: ds, K, h => by
    cases c <;> try exact h.elim
    cases d <;> try exact h.elim
    obtain ⟨hk, h⟩ := h
    obtain ⟨r, h1, h2⟩ := eqI_det h
    exact ⟨_, h1, fun K' hK' => ⟨hk, h2 _ hK'⟩⟩
theorem evEq_det {op : BinOp} {r : Bool} (h : evEq op K r) : Det f o ok (fun K' => evEq op K' r) K := by
  cases op <;> simp only [evEq] at h
  case eql => exact Det.val h fun K' h => h
  case neq => exact Det.val h fun K' h => h
  all_goals exact h.elim
theorem evBin_det {op : BinOp} {k : IntKind} {x y : Int} (h : evBin op k x y K) : Det f o ok (fun K' => evBin op k x y K') K := by
  cases op <;> simp only [evBin] at h
  case add => obtain ⟨r, h1, h⟩ := h; exact Det.val h fun K' h => ⟨r, h1, h⟩
  case sub => obtain ⟨r, h1, h⟩ := h; exact Det.val h fun K' h => ⟨r, h1, h⟩
  case mul => obtain ⟨r, h1, h⟩ := h; exact Det.val h fun K' h => ⟨r, h1, h⟩
  case quo => obtain ⟨h0, r, h1, h⟩ := h; exact Det.val h fun K' h => ⟨h0, r, h1, h⟩
  case rem => obtain ⟨h0, r, h1, h⟩ := h; exact Det.val h fun K' h => ⟨h0, r, h1, h⟩
  case and => obtain ⟨r, h1, h⟩ := h; exact Det.val h fun K' h => ⟨r, h1, h⟩
  case or => obtain ⟨r, h1, h⟩ := h; exact Det.val h fun K' h => ⟨r, h1, h⟩
  case xor => obtain ⟨r, h1, h⟩ := h; exact Det.val h fun K' h => ⟨r, h1, h⟩
  case andNot => obtain ⟨r, h1, h⟩ := h; exact Det.val h fun K' h => ⟨r, h1, h⟩
  case shl => obtain ⟨h0, r, h1, h⟩ := h; exact Det.val h fun K' h => ⟨h0, r, h1, h⟩
  case shr => obtain ⟨h0, r, h1, h⟩ := h; exact Det.val h fun K' h => ⟨h0, r, h1, h⟩
  case eql => exact Det.val h fun K' h => h
  case neq => exact Det.val h fun K' h => h
  case lss => exact Det.val h fun K' h => h
  case leq => exact Det.val h fun K' h => h
  case gtr => exact Det.val h fun K' h => h
  case geq => exact Det.val h fun K' h => h
  all_goals exact h.elim
theorem evSlice_det {i : TI} {x : TV} {l h m : Option Int} (hK : evSlice T i x l h m K) : Det f o ok (fun K' => evSlice T i x l h m K') K := by
  obtain ⟨t, v, e, es, rfl, hK⟩ := isL_inv hK
  obtain ⟨hb, hK⟩ := bif_true hK
  have back : ∀ {X : (Dl → Prop) → Prop}, Det f o ok X K → (∀ K', X K' → evSlice T i (.pv (false, [.lst t v e es])) l h m K') → Det f o ok (fun K' => evSlice T i (.pv (false, [.lst t v e es])) l h m K') K :=
    fun ⟨d, h1, h2, h3⟩ hX => ⟨d, h1, h2, fun K' hK' => hX K' (h3 K' hK')⟩
  cases h with
  | none =>
    cases m with
    | none =>
      cases l with
      | none => exact hK.elim
      | some l => obtain ⟨h1, h2, h3⟩ := hK; exact Det.val h3 fun K' h => by unfold evSlice isL; simp only [hb, cond_true]; exact ⟨h1, h2, h⟩
    | some m => exact hK.elim
  | some q =>
    cases m with
    | none =>
      cases l with
      | none => obtain ⟨h1, h2, h3⟩ := hK; exact Det.val h3 fun K' h => by unfold evSlice isL; simp only [hb, cond_true]; exact ⟨h1, h2, h⟩
      | some l => obtain ⟨h1, h2, h4, h5, h3⟩ := hK; exact Det.val h3 fun K' h => by unfold evSlice isL; simp only [hb, cond_true]; exact ⟨h1, h2, h4, h5, h⟩
    | some m =>
      cases l with
      | none => obtain ⟨h1, h2, h4, h3⟩ := hK; exact Det.val h3 fun K' h => by unfold evSlice isL; simp only [hb, cond_true]; exact ⟨h1, h2, h4, h⟩
      | some l => exact hK.2.2.2.elim
theorem evAppend_det (ha : isApp o = true) (hs : setsCu o = true) {t0 : TypeId} {x y : TV} (hK : evAppend T f.cur f.ut (o.dst.getD 0) t0 x y K) : Det f o ok (fun K' => evAppend T f.cur f.ut (o.dst.getD 0) t0 x y K') K := by
  obtain ⟨t, v, e, es, rfl, hK1⟩ := isL_inv hK
  obtain ⟨t', v', e', es', rfl, hK2⟩ := isL_inv hK1
  obtain ⟨hb, hfit, hK3⟩ := bif_true hK2
  clear hK hK1 hK2
  match t, hb, hK3 with
  | 0, _, hK => exact hK.elim
  | 1, hb, hK =>
    simp only at hK
    cases hu : f.ut (16 * o.dst.getD 0) || Nat.ble (o.dst.getD 0) 1 with
    | true => rw [hu] at hK; exact hK.elim
    | false =>
      rw [hu] at hK
      have hu' := hu
      simp only [Bool.or_eq_false_iff] at hu'
      have hd2 : 2 ≤ o.dst.getD 0 := by
        have h2 := hu'.2
        rcases Nat.lt_or_ge 1 (o.dst.getD 0) with h3 | h3
        · exact h3
        · rw [Nat.ble_eq_true_of_le h3] at h2; cases h2
      refine ⟨_, hK, ⟨fun x hx => by (cases hx), fun _ => rfl, fun x hx => by (cases hx), fun x hx => ?_⟩, fun K' h => ?_⟩
      · simp only [List.mem_singleton] at hx
        subst hx
        exact .inl ⟨Nat.le_refl _, Nat.lt_add_of_pos_right (by decide), hu'.1, hs, .inr hd2⟩
      · unfold evAppend isL
        simp only [hb, cond_true]
        refine ⟨hfit, ?_⟩
        rw [hu]; exact h
  | t + 2, hb, hK =>
    simp only at hK
    split at hK
    · rename_i c hc
      obtain ⟨hut, hv, hK⟩ := hK
      refine ⟨_, hK, ⟨fun x hx => by (cases hx), fun _ => rfl, fun x hx => by (cases hx), fun x hx => ?_⟩, fun K' h => ?_⟩
      · simp only [List.mem_singleton] at hx
        subst hx
        exact .inr ⟨ha, hut⟩
      · unfold evAppend isL
        simp only [hb, cond_true]
        refine ⟨hfit, ?_⟩
        rw [hc]; exact ⟨hut, hv, h⟩
    · exact hK.elim
theorem evOp_det (hc : isCallF o = false) (hK : evOp P T f ok o K) : Det f o ok (fun K' => evOp P T f ok o K') K := by
  obtain ⟨dst, op, ty, pos, after, guard⟩ := o
  cases op <;> simp only [evOp] at hK ⊢ <;> try exact hK.elim
  case move x => exact Det.val hK fun K' h => h
  case assign x =>
    generalize isNilC x = b at hK ⊢
    cases b with
    | true => exact fresh_det (o := ⟨dst, .assign x, ty, pos, after, guard⟩) rfl hK
    | false => exact Det.val hK fun K' h => h
  case pick c x y =>
    obtain ⟨b, hb, hK⟩ := isB_inv hK
    cases b with
    | true => exact Det.val hK fun K' h => by unfold isB; (try rw [hb]); exact h
    | false => exact Det.val hK fun K' h => by unfold isB; (try rw [hb]); exact h
  case alloc t =>
    obtain ⟨hu, hK⟩ := bif_not hK
    obtain ⟨hok, hK⟩ := bif_true hK
    refine ⟨_, hK, ⟨fun x hx => ?_, fun h => by (cases h), fun x hx => ?_, fun x hx => by (cases hx)⟩, fun K' h => by rw [hu, hok]; exact h⟩
    · simp only [List.mem_singleton] at hx; subst hx; exact .inr ⟨rfl, rfl⟩
    · simp only [List.mem_singleton] at hx; subst hx; exact ⟨rfl, rfl⟩
  case box t x =>
    split at hK
    · rename_i p hp
      obtain ⟨hu, hK⟩ := bif_not hK
      refine ⟨_, hK, ⟨fun x hx => ?_, fun h => by (cases h), fun x hx => ?_, fun x hx => by (cases hx)⟩, fun K' h => by (try rw [hp]); rw [hu]; exact h⟩
      · simp only [List.mem_singleton] at hx; subst hx; exact .inr ⟨rfl, rfl⟩
      · simp only [List.mem_singleton] at hx; subst hx; exact ⟨rfl, rfl⟩
    · exact hK.elim
  case build t parts =>
    obtain ⟨hb, hK⟩ := bif_true hK
    obtain ⟨l, h1, h2⟩ := evFill_det hK
    exact Det.val h1 fun K' h => by (try rw [hb]); exact h2 _ h
  case buildSlice t n parts =>
    obtain ⟨hb, hK⟩ := bif_true hK
    obtain ⟨hb2, hK⟩ := bif_true hK
    obtain ⟨l, h1, h2⟩ := evFill_det hK
    obtain ⟨hb3, h1⟩ := bif_true h1
    exact Det.back (fresh_det (o := ⟨dst, .buildSlice t n parts, ty, pos, after, guard⟩) rfl h1) fun K' h => by (try rw [hb]); (try rw [hb2]); exact h2 _ (by rw [hb3]; exact h)
  case load t x =>
    split at hK
    · rename_i b off e1
      split at hK
      · rename_i cs hm
        obtain ⟨hok, hK⟩ := bif_true hK
        obtain ⟨hb, hK⟩ := bif_true hK
        exact Det.val hK fun K' h => by (try rw [e1]); (try simp only [hm]); rw [hok]; (try rw [hb]); exact h
      · exact hK.elim
    · rename_i cs e1
      obtain ⟨hb, hK⟩ := bif_true hK
      exact Det.val hK fun K' h => by (try rw [e1]); (try simp only [hb]); exact h
    · exact hK.elim
  case store t x y =>
    split at hK
    · rename_i b off p e1 e2
      split at hK
      · rename_i cs hm
        obtain ⟨hok, hK⟩ := bif_true hK
        obtain ⟨hb, hK⟩ := bif_true hK
        refine ⟨_, hK, ⟨fun x hx => ?_, fun h => by (cases h), fun x hx => by (cases hx), fun x hx => by (cases hx)⟩, fun K' h => by (try rw [e1]); (try rw [e2]); (try simp only [hm]); rw [hok]; (try rw [hb]); exact h⟩
        simp only [List.mem_singleton] at hx; subst hx; exact .inl hok
      · exact hK.elim
    · exact hK.elim
  case nilCheck x =>
    split at hK
    · rename_i b off e1; exact Det.val hK fun K' h => by (try rw [e1]); exact h
    · rename_i cs e1; exact Det.val hK fun K' h => by (try rw [e1]); exact h
    · exact hK.elim
  case binOp op t x y ty2 =>
    split at hK
    · rename_i k p k' q e1 e2
      obtain ⟨hb, hK⟩ := bif_true hK
      exact Det.back (evBin_det hK) fun K' h => by (try rw [e1]); (try rw [e2]); (try simp only [hb]); exact h
    · rename_i p q e1 e2
      obtain ⟨hb, hK⟩ := bif_true hK
      exact Det.back (evEq_det hK) fun K' h => by (try rw [e1]); (try rw [e2]); (try simp only [hb]); exact h
    · rename_i p q e1 e2
      exact Det.back (evEq_det hK) fun K' h => by (try rw [e1]); (try rw [e2]); exact h
    · rename_i cs ds e1 e2
      obtain ⟨hb, hK⟩ := bif_true hK
      obtain ⟨r, h1, h2⟩ := eqI_det hK
      exact Det.back (evEq_det h1) fun K' h => by (try rw [e1]); (try rw [e2]); (try simp only [hb]); exact h2 _ h
    · exact hK.elim
  case unOp op t x =>
    cases op <;> try exact hK.elim
    case not =>
      obtain ⟨b, hb, hK⟩ := isB_inv hK
      exact Det.val hK fun K' h => by show isB (evo f.env 0 x) (fun b => one K' (.b !b)); unfold isB; rw [hb]; exact h
    case neg =>
      obtain ⟨k, n, hb, r, h1, hK⟩ := isI_inv hK
      exact Det.val hK fun K' h => by show isI (evo f.env 0 x) (fun k n => ∃ r, k.wrap (0 - n) = r ∧ one K' (.i k r)); unfold isI; rw [hb]; exact ⟨r, h1, h⟩
  case convert src dst' x =>
    split at hK
    · rename_i k0 n e1
      split at hK
      · rename_i ks kd e2 e3
        obtain ⟨r, h1, hK⟩ := hK
        exact Det.val hK fun K' h => by (try rw [e1]); (try simp only [e2, e3]); exact ⟨r, h1, h⟩
      · exact hK.elim
    · rename_i lt lv e es e1
      obtain ⟨hb, hes, hK⟩ := bif_true hK
      exact Det.val hK fun K' h => by (try rw [e1]); (try simp only [hb]); exact ⟨hes, h⟩
    · exact hK.elim
  case makeSlice t l c =>
    obtain ⟨k1, n, e1, hK⟩ := isI_inv hK
    obtain ⟨k2, m, e2, h0, h1, h2, h3, hK⟩ := isI_inv hK
    obtain ⟨hb, hK⟩ := bif_true hK
    cases hcon : isConst l with
    | true =>
      rw [hcon] at hK
      exact Det.back (fresh_det (o := ⟨dst, .makeSlice t l c, ty, pos, after, guard⟩) rfl hK) fun K' h => by unfold isI; (try rw [e1]); (try simp only [e2]); exact ⟨h0, h1, h2, h3, by rw [hb]; exact h⟩
    | false =>
      rw [hcon] at hK
      obtain ⟨hu, hK⟩ := bif_not hK
      refine ⟨_, hK, ⟨fun x hx => ?_, fun h => by (cases h), fun x hx => ?_, fun x hx => by (cases hx)⟩, fun K' h => by unfold isI; (try rw [e1]); (try simp only [e2]); exact ⟨h0, h1, h2, h3, by rw [hb, hu]; exact h⟩⟩
      · simp only [List.mem_singleton] at hx; subst hx; exact .inr ⟨rfl, rfl⟩
      · simp only [List.mem_singleton] at hx; subst hx; exact ⟨rfl, rfl⟩
  case slice t x lo hi mx =>
    obtain ⟨l, h1, g1⟩ := evIdx_det hK
    obtain ⟨h, h2, g2⟩ := evIdx_det h1
    obtain ⟨m, h3, g3⟩ := evIdx_det h2
    exact Det.back (evSlice_det h3) fun K' h => g1 _ (g2 _ (g3 _ h))
  case fieldAddr t x j =>
    split at hK
    · exact hK.elim
    · rename_i off ty2 e0
      obtain ⟨hb, hK1⟩ := bif_true hK
      split at hK1
      · rename_i b off2 e1; exact Det.val hK1 fun K' h => by (try simp only [hb, cond_true, e1]); exact h
      · rename_i cs e1; exact Det.val hK1 fun K' h => by (try simp only [hb, cond_true, e1]); exact h
      · exact hK1.elim
  case field t x j =>
    split at hK
    · exact hK.elim
    · rename_i off ty2 e0
      split at hK
      · rename_i cs e1
        obtain ⟨hb, hK⟩ := bif_true hK
        exact Det.val hK fun K' h => by (try simp only [e1, hb]); exact h
      · exact hK.elim
  case indexAddr t x ix =>
    rcases isLR_inv hK with ⟨lt, lv, e, es, e1, hK⟩ | ⟨b, m, e, e1, hK⟩
    · obtain ⟨k, n, e2, h0, hK⟩ := isI_inv hK
      obtain ⟨hb, cs, hcs, hK⟩ := bif_true hK
      exact Det.val hK fun K' h => by unfold isLR isI; (try rw [e1]); (try simp only [e2]); exact ⟨h0, by rw [hb]; exact ⟨cs, hcs, h⟩⟩
    · obtain ⟨k, n, e2, h0, hK⟩ := isI_inv hK
      obtain ⟨hb, hK⟩ := bif_true hK
      exact Det.val hK fun K' h => by unfold isLR isI; (try rw [e1]); (try simp only [e2]); exact ⟨h0, by rw [hb]; exact h⟩
  case extract x j =>
    split at hK
    · rename_i xs e1
      split at hK
      · rename_i p hp; exact Det.val hK fun K' h => by (try rw [e1]); (try simp only [hp]); exact h
      · exact hK.elim
    · exact hK.elim
  case call c =>
    split at hK
    · rename_i args tys g e1; try simp only [isCallF] at hc; rw [e1] at hc; cases hc
    · rename_i args tys g e1; try simp only [isCallF] at hc; rw [e1] at hc; cases hc
    · rename_i x t r e1 e2 e3
      obtain ⟨lt, lv, e, es, e4, hK⟩ := isL_inv hK
      obtain ⟨hb, hK⟩ := bif_true hK
      exact Det.val hK fun K' h => by (try rw [e1]); (try rw [e2]); (try rw [e3]); (try simp only [isL, e4, hb]); exact h
    · rename_i l e1
      obtain ⟨k, xs, h1, h2⟩ := evInts_det hK
      cases xs with
      | nil => exact h1.elim
      | cons n r => exact Det.val h1 fun K' h => by (try rw [e1]); exact h2 _ h
    · rename_i x y t0 t1 e1 e2 e3
      obtain ⟨hb, hK⟩ := bif_true hK
      have ha : isApp ⟨dst, .call c, ty, pos, after, guard⟩ = true := by (try simp only [isApp]); rw [e1]
      have hs : setsCu ⟨dst, .call c, ty, pos, after, guard⟩ = true := by try simp only [setsCu, ha, Bool.or_true]
      exact Det.back (evAppend_det (o := ⟨dst, .call c, ty, pos, after, guard⟩) ha hs hK) fun K' h => by (try rw [e1]); (try rw [e2]); (try rw [e3]); (try simp only [hb]); exact h
    · exact hK.elim
theorem evArgs_det {env : Nat → TV} : ∀ {l : List (Operand × TypeId)} {K : List PV → Prop}, evArgs env T l K → ∃ ps, K ps ∧ ∀ K' : List PV → Prop, K' ps → evArgs env T l K'
  | [], K, h => ⟨[], h, fun _ h => h⟩
  | (x, t) :: r, K, h => by
    unfold evArgs at h
    split at h
    · rename_i p hp
      obtain ⟨ps, h1, h2⟩ := evArgs_det h
      exact ⟨_, h1, fun K' hK' => by unfold evArgs; rw [hp]; exact h2 _ hK'⟩
    · exact h.elim
theorem memIs_ok' {m : Nat → Option (List AV)} : ∀ {l : List (Nat × List AV)}, memIs m ok l → ∀ p ∈ l, ok p.1 = true
  | [], _, p, hp => by cases hp
  | (k, cs) :: r, h, p, hp => by
    rcases List.mem_cons.1 hp with rfl | hp
    · have h1 := h.1
      split at h1
      · exact h1.1
      · exact h1.elim
    · exact memIs_ok' h.2 p hp
theorem evCall_mono {K' : Dl → Prop} {o : Oper} {d : Nat} {g : FuncId} {args : List (Operand × TypeId)} (hd : d = o.dst.getD 0) (ha : isWr o = true) (hcf : isCallF o = true) (hset : setsCu o = true) (hK : evCall P T f.env f.mem f.ub f.ut ok d g args K) (h : ∀ d, K d → Fp f o ok d → K' d) :
    evCall P T f.env f.mem f.ub f.ut ok d g args K' := by
  obtain ⟨ps, h1, h2⟩ := evArgs_det hK
  obtain ⟨hb, hbk⟩ := bif_true h1
  obtain ⟨B, hB, hlin, ⟨m, R, hfn, hm, hK⟩, hX⟩ := evBank_inv hbk
  refine h2 _ ?_
  rw [hb]
  rw [cond_true]
  refine hX _ ?_
  refine ⟨m, R, hfn, hm, fun out ho htk => h _ (hK out ho htk) ⟨fun x hx => ?_, fun hh => by (rw [ha] at hh; cases hh), fun x hx => ?_, fun x hx => ?_⟩⟩
  · rcases List.mem_append.1 hx with hx | hx
    · right
      split at hx
      · simp only [List.mem_singleton] at hx; subst hx; exact ⟨hd, by rw [hcf]; simp⟩
      · cases hx
    · left
      obtain ⟨y, hy, rfl⟩ := List.mem_map.1 hx
      exact memIs_ok' hm y.1 (List.of_mem_zip hy).1
  · simp only [outDl] at hx
    split at hx
    · simp only [List.mem_singleton] at hx; subst hx; exact ⟨hd, by rw [hcf]; simp⟩
    · cases hx
  · obtain ⟨y, hy, rfl⟩ := List.mem_map.1 hx
    have := List.all_eq_true.1 htk y hy
    simp only [Bool.and_eq_true] at this hb
    have g1 := Nat.le_of_ble_eq_true this.1
    have g2 : y.1 < 9 := Nat.lt_of_succ_le (Nat.le_of_ble_eq_true this.2)
    left
    subst hd
    refine ⟨Nat.le_trans hB.1 (Nat.le_add_right _ _), ?_, linFree_ok hlin y.1 g1 g2, hset, .inl hcf⟩
    show B + y.1 < 16 * o.dst.getD 0 + 16
    have := hB.2
    omega
/-- What holds of all that it may come to, with what it may turn. -/
theorem evOp_mono {K' : Dl → Prop} (hK : evOp P T f ok o K) (h : ∀ d, K d → Fp f o ok d → K' d) : evOp P T f ok o K' := by
  cases hc : isCallF o with
  | false =>
    obtain ⟨d, h1, h2, h3⟩ := evOp_det hc hK
    exact h3 K' (h d h1 h2)
  | true =>
    obtain ⟨dst, op, ty, pos, after, guard⟩ := o
    cases op <;> simp only [isCallF] at hc <;> try (cases hc; done)
    rename_i c
    obtain ⟨callee, args, tys⟩ := c
    cases callee <;> simp only at hc <;> try (cases hc; done)
    rename_i g
    simp only [evOp] at hK ⊢
    cases g <;> try exact hK.elim
    simp only at hK ⊢
    · split at hK
      · rename_i e1; exact evCall_mono rfl rfl rfl rfl hK h
      · exact hK.elim
    · exact evCall_mono rfl rfl rfl rfl hK h
end
end Go.Proofs.Ytpeejmolbmhjjaa.Sx
