/- Regions whose order Go leaves open: an operation reads alike in states that differ elsewhere; there is no condition beyond those each statement names. -/
import Derived.Test.YtpeejmolbmhjjaaNSy15
namespace Go.Proofs.Ytpeejmolbmhjjaa.Sx
set_option linter.unusedSimpArgs false
set_option linter.unusedVariables false
open Go
section
variable {P : Program} {T : TT} {f f' : FS} {o : Oper} {ok : Nat → Bool} {K : Dl → Prop}
theorem evFill_env {env env' : Nat → TV} {place : Nat → Option (Nat × TypeId)} : ∀ {parts : List (Nat × Operand)} {cs : List AV} {K : List AV → Prop}, (∀ p ∈ parts, ∀ e, evo env' e p.2 = evo env e p.2) → evFill env place T cs K parts → evFill env' place T cs K parts
  | [], cs, K, _, h => h
  | (j, x) :: r, cs, K, he, h => by
    unfold evFill at h ⊢
    cases hp : place j with
    | none => rw [hp] at h; exact h.elim
    | some q =>
      obtain ⟨off, ty⟩ := q
      rw [hp] at h
      simp only at h ⊢
      have h0 : evo env' (ti T ty).el x = evo env (ti T ty).el x := he (j, x) (by simp) _
      rw [h0]
      split at h
      · rename_i p hev
        obtain ⟨hb, h⟩ := bif_true h
        simp only [hb, cond_true]
        exact evFill_env (fun p hp => he p (by simp [hp])) h
      · exact h.elim
theorem evIdx_env {env env' : Nat → TV} {x : Option Operand} {K : Option Int → Prop} (he : ∀ y, x = some y → evo env' 0 y = evo env 0 y) (h : evIdx env x K) : evIdx env' x K := by
  cases x with
  | none => exact h
  | some y => show isI (evo env' 0 y) _; rw [he y rfl]; exact h
theorem evArgs_env {env env' : Nat → TV} : ∀ {l : List (Operand × TypeId)} {K : List PV → Prop}, (∀ p ∈ l, ∀ e, evo env' e p.1 = evo env e p.1) → evArgs env T l K → evArgs env' T l K
  | [], K, _, h => h
  | (x, t) :: r, K, he, h => by
    unfold evArgs at h ⊢
    have h0 : evo env' (ti T t).el x = evo env (ti T t).el x := he (x, t) (by simp) _
    rw [h0]
    split at h
    · exact evArgs_env (fun p hp => he p (by simp [hp])) h
    · exact h.elim
theorem memIs_env {m m' : Nat → Option (List AV)} (hm : ∀ b, ok b = true → m' b = m b) : ∀ {l : List (Nat × List AV)}, memIs m ok l → memIs m' ok l
  | [], h => h
  | (k, cs) :: r, h => by
    refine ⟨?_, memIs_env hm h.2⟩
    have h1 := h.1
    cases hq : m k with
    | none => rw [hq] at h1; exact h1.elim
    | some c => rw [hq] at h1; rw [hm k h1.1, hq]; exact h1
theorem linFree_env {u u' : Nat → Bool} {d k : Nat} (hk : k ≤ 7) (hu : ∀ t, t < 16 → u' (16 * d + t) = u (16 * d + t)) : ∀ n, n ≤ 7 → linFree u' (16 * d + k) n = linFree u (16 * d + k) n
  | 0, _ => rfl
  | n + 1, h => by simp only [linFree]; rw [Nat.add_assoc, hu (k + (n + 2)) (by omega), linFree_env hk hu n (by omega)]
theorem evBank_env {u u' : Nat → Bool} {d : Nat} {X : Nat → Prop} (hu : ∀ t, t < 16 → u' (16 * d + t) = u (16 * d + t)) : evBank u' d X = evBank u d X := by
  unfold evBank
  rw [show linFree u' (16 * d) 7 = linFree u (16 * d) 7 from linFree_env (k := 0) (by decide) hu 7 (Nat.le_refl _), linFree_env (k := 7) (Nat.le_refl _) hu 7 (Nat.le_refl _)]
theorem evOp_congr (hE : ∀ x ∈ o.op.operands.toList, ∀ e, evo f'.env e x = evo f.env e x) (hM : ∀ b, ok b = true → f'.mem b = f.mem b)
    (hC : isApp o = true → ∀ t, f.ut t = true → f'.ut t = true ∧ f'.cur t = f.cur t) (hub : f'.ub (o.dst.getD 0) = f.ub (o.dst.getD 0)) (hub0 : f'.ub 0 = f.ub 0)
    (hut : ∀ t, t < 16 → f'.ut (16 * o.dst.getD 0 + t) = f.ut (16 * o.dst.getD 0 + t)) (hK : evOp P T f ok o K) : evOp P T f' ok o K := by
  obtain ⟨dst, op, ty, pos, after, guard⟩ := o
  simp only at hE hub hut
  have hfr : ∀ e es, fresh f'.ut (dst.getD 0) e es K = fresh f.ut (dst.getD 0) e es K := fun e es => by
    unfold fresh
    have := hut 0 (by decide)
    simp only [Nat.add_zero] at this
    rw [this]
  cases op <;> simp only [evOp] at hK ⊢ <;> try exact hK.elim
  case move x => rw [hE x (by simp [Op.operands])]; exact hK
  case assign x => rw [hE x (by simp [Op.operands]), hfr]; exact hK
  case pick c x y => rw [hE c (by simp [Op.operands]), hE x (by simp [Op.operands]), hE y (by simp [Op.operands])]; exact hK
  case alloc t => rw [hub]; exact hK
  case box t x => rw [hE x (by simp [Op.operands]), hub]; exact hK
  case build t parts =>
    obtain ⟨hb, hK⟩ := bif_true hK
    rw [hb]
    exact evFill_env (fun p hp e => hE p.2 (by simp only [Op.operands, List.toList_toArray]; exact List.mem_map.2 ⟨p, hp, rfl⟩) e) hK
  case buildSlice t n parts =>
    obtain ⟨hb, hK⟩ := bif_true hK
    obtain ⟨hb2, hK⟩ := bif_true hK
    rw [hb, hb2]
    simp only [hfr]
    exact evFill_env (fun p hp e => hE p.2 (by simp only [Op.operands, List.toList_toArray]; exact List.mem_map.2 ⟨p, hp, rfl⟩) e) hK
  case load t x =>
    rw [hE x (by simp [Op.operands])]
    split at hK
    · rename_i b off e1
      split at hK
      · rename_i cs hm; rw [hM b (bif_true hK).1, hm]; exact hK
      · exact hK.elim
    · exact hK
    · exact hK.elim
  case store t x y =>
    rw [hE x (by simp [Op.operands]), hE y (by simp [Op.operands])]
    split at hK
    · rename_i b off p e1 e2
      split at hK
      · rename_i cs hm; rw [hM b (bif_true hK).1, hm]; exact hK
      · exact hK.elim
    · exact hK.elim
  case nilCheck x => rw [hE x (by simp [Op.operands])]; exact hK
  case binOp op t x y ty2 => rw [hE x (by simp [Op.operands]), hE y (by simp [Op.operands])]; exact hK
  case unOp op t x =>
    cases op <;> try exact hK.elim
    case not => show isB (evo f'.env 0 x) _; rw [hE x (by simp [Op.operands])]; exact hK
    case neg => show isI (evo f'.env 0 x) _; rw [hE x (by simp [Op.operands])]; exact hK
  case convert src dst' x => rw [hE x (by simp [Op.operands])]; exact hK
  case makeSlice t l c => rw [hE l (by simp [Op.operands]), hE c (by simp [Op.operands])]; simp only [hfr, hub]; exact hK
  case slice t x lo hi mx =>
    rw [hE x (by simp [Op.operands])]
    obtain ⟨l, h1, g1⟩ := evIdx_det hK
    obtain ⟨h, h2, g2⟩ := evIdx_det h1
    obtain ⟨m, h3, g3⟩ := evIdx_det h2
    exact evIdx_env (fun y hy => hE y (by subst hy; simp [Op.operands]) 0) (g1 _ (evIdx_env (fun y hy => hE y (by subst hy; simp [Op.operands]) 0) (g2 _ (evIdx_env (fun y hy => hE y (by subst hy; simp [Op.operands]) 0) (g3 _ h3)))))
  case fieldAddr t x j => rw [hE x (by simp [Op.operands])]; exact hK
  case field t x j => rw [hE x (by simp [Op.operands])]; exact hK
  case indexAddr t x ix => rw [hE x (by simp [Op.operands]), hE ix (by simp [Op.operands])]; exact hK
  case extract x j => rw [hE x (by simp [Op.operands])]; exact hK
  case call c =>
    have hargs : ∀ x ∈ c.args.toList, ∀ e, evo f'.env e x = evo f.env e x := fun x hx => hE x (by simp only [Op.operands, Call.operands, Array.toList_append]; exact List.mem_append_right _ hx)
    obtain ⟨callee, args, tys⟩ := c
    simp only at hK hargs ⊢
    split at hK
    · rename_i args' tys' g
      obtain ⟨ps, h1, h2⟩ := evArgs_det hK
      obtain ⟨hb, hbk⟩ := bif_true h1
      obtain ⟨B, hB, hlin, ⟨m, R, hfn, hm, hK'⟩, hX⟩ := evBank_inv hbk
      refine evArgs_env (fun p hp e => hargs p.1 (List.of_mem_zip hp).1 e) (h2 _ ?_)
      rw [hub, hub0, hb]
      rw [cond_true]
      rw [evBank_env hut]
      refine hX _ ?_
      exact ⟨m, R, hfn, memIs_env hM hm, hK'⟩
    · rename_i args' tys' x
      have hx : f'.env x = f.env x := hE (.tmp x) (by simp [Op.operands, Call.operands]) 0
      rw [hx]
      split at hK
      · rename_i g e1
        obtain ⟨ps, h1, h2⟩ := evArgs_det hK
        obtain ⟨hb, hbk⟩ := bif_true h1
        obtain ⟨B, hB, hlin, ⟨m, R, hfn, hm, hK'⟩, hX⟩ := evBank_inv hbk
        refine evArgs_env (fun p hp e => hargs p.1 (List.of_mem_zip hp).1 e) (h2 _ ?_)
        rw [hub, hub0, hb]
        rw [cond_true]
        rw [evBank_env hut]
        refine hX _ ?_
        exact ⟨m, R, hfn, memIs_env hM hm, hK'⟩
      · exact hK.elim
    · rename_i x t r e2 e3
      rw [hargs x (by rw [e2]; simp)]; exact hK
    · rename_i l
      rw [List.map_congr_left (fun x hx => hargs x hx 0)]; exact hK
    · rename_i x y t0 t1 e2 e3
      obtain ⟨hb, hK⟩ := bif_true hK
      rw [hb, hargs x (by rw [e2]; simp), hargs y (by rw [e2]; simp)]
      simp only [cond_true]
      obtain ⟨t, v, e, es, e4, hK⟩ := isL_inv hK
      obtain ⟨t', v', e', es', e5, hK⟩ := isL_inv hK
      obtain ⟨hb2, hfit, hK⟩ := bif_true hK
      unfold evAppend isL
      rw [e4, e5]
      simp only [hb2, cond_true]
      refine ⟨hfit, ?_⟩
      match t, hK with
      | 0, hK => exact hK.elim
      | 1, hK =>
        have := hut 0 (by decide)
        simp only [Nat.add_zero] at this
        simp only at hK ⊢
        rw [this]; exact hK
      | t + 2, hK =>
        simp only at hK ⊢
        split at hK
        · rename_i c hc
          obtain ⟨g1, g2⟩ := hC rfl (t + 2) hK.1
          rw [g2, hc]
          exact ⟨g1, hK.2⟩
        · exact hK.elim
    · exact hK.elim
end
end Go.Proofs.Ytpeejmolbmhjjaa.Sx
