/- The machine does what the reading says: every operation that is read; there is no condition beyond those each statement names. -/
import Derived.Test.YtpeejmolbmhjjaaNSy12
namespace Go.Proofs.Ytpeejmolbmhjjaa.Sx
set_option linter.unusedSimpArgs false
set_option linter.unusedVariables false
open Go
section
variable {P : Program} {T : TT} {G : Gd} {f : FS} {C : Cx} {a : Act} {w : World} {o : Oper} {Q : Exit → Act → World → Prop} {K : Dl → Prop} {ok : Nat → Bool}
theorem s_call (h : Rel P G f C a w) (hd : ∀ d, o.dst = some d → d < G.n) (c : Call) (g : FuncId) (ho : o.op = .call c) (x : Operand) (hc : c.callee = .value x) (hx : a.eval x = .func (.func g) #[] #[]) (tys : List TypeId)
    (hK : evCall P T f.env f.mem f.ub f.ut ok (o.dst.getD 0) g (c.args.toList.zip (tys ++ List.replicate c.args.toList.length 0)) K) : o.wp P a w (Post P G f o.dst K) Q := by
  obtain ⟨ps, hcond, hl, hr⟩ := evArgs_ok h _ _ hK
  obtain ⟨hb, hbk⟩ := bif_true hcond
  obtain ⟨B, hB, hlin, ⟨m, R, hfn, hm, hK1⟩, _⟩ := evBank_inv hbk
  simp only [Bool.and_eq_true, Bool.not_eq_true'] at hb
  obtain ⟨hub, hu0⟩ := hb
  have hut := linFree_ok hlin
  have hzip : (c.args.toList.zip (tys ++ List.replicate c.args.toList.length 0)).length = c.args.toList.length := by simp
  have hrun : (execOp a.eval o).run P w = .ok (.enter g (c.args.map a.eval)) w := by
    unfold execOp
    have hg := hfn.1 (c.args.map a.eval) w
    simp [ho, resolve, hc, hx, Deferred.ofValue, invoke, hg]
  unfold Oper.wp
  rw [hrun, Oper.upon_enter]
  have hmk := memIs_ok hm
  refine (hfn.2 C.F C.β f.ub w (c.args.map a.eval) h.lt ⟨hu0, h.ubK⟩ (fun p hp => ?_) (fun p hp q hq he => ?_) (by rw [hl, hzip]; simp) (fun j x u hx hu => ?_)).mono fun e w' hh => ?_
  · obtain ⟨cs', h1, h2⟩ := hmk p hp
    obtain ⟨k1, ⟨arr, ty, k2, k3⟩, _, k4⟩ := h.mem p.1 cs' h1
    exact ⟨k1, ⟨arr, ty, k2, by rw [← h2]; exact strip_rep (F := C.F) (β := C.β) (U := f.ub) k3⟩, k4⟩
  · obtain ⟨cs, h1, _⟩ := hmk p hp
    obtain ⟨cs', h2, _⟩ := hmk q hq
    exact h.inj _ _ _ _ h1 h2 he
  · have hj : j < c.args.toList.length := by rw [← hzip, ← hl]; exact (List.getElem?_eq_some_iff.1 hx).1
    have hz : j < (c.args.toList.zip (tys ++ List.replicate c.args.toList.length 0)).length := by rw [hzip]; exact hj
    have h1 := hr j x _ hx (List.getElem?_eq_getElem hz)
    have h2 : u = a.eval ((c.args.toList.zip (tys ++ List.replicate c.args.toList.length 0))[j]'hz).1 := by
      rw [List.getElem_zip]
      have hs : j < c.args.size := by simpa using hj
      simp only [Array.getElem?_map, Array.getElem?_eq_getElem hs, Option.map_some, Option.some.injEq] at hu
      rw [← hu]; simp
    rw [h2]; exact h1
  · obtain ⟨v, out, F', bn, τ, rfl, hRo, hret⟩ := hh
    obtain ⟨C', hC'⟩ := h.called (o.dst.getD 0) B (dst_lt h hd) hub hu0 hut m hm out F' bn τ v hret o.dst hd
    exact ⟨_, C', hK1 out hRo (List.all_eq_true.2 fun x hx => by
      have hs : (lk out.tk x.1).isSome = true := by rw [← lk_any]; exact List.any_eq_true.2 ⟨x, hx, by simp⟩
      obtain ⟨v2, hv2⟩ := Option.isSome_iff_exists.1 hs
      obtain ⟨g1, g2⟩ := hret.tk _ _ hv2
      rw [Bool.and_eq_true]; exact ⟨Nat.ble_eq_true_of_le g1, Nat.ble_eq_true_of_le g2⟩), hC'⟩
theorem s_assign_nil (h : Rel P G f C a w) (hd : ∀ d, o.dst = some d → d < G.n) (e : TypeId) (ho : o.op = .assign (.const (.slice none 0 0))) (hK : fresh f.ut (o.dst.getD 0) e [] K) : o.wp P a w (Post P G f o.dst K) Q := by
  refine wp_val (v := .slice none 0 0) (w' := w) (by unfold execOp; simp only [ho]; rfl) ?_
  unfold fresh at hK
  cases hb : f.ut (16 * o.dst.getD 0) || Nat.ble (o.dst.getD 0) 1 with
  | true =>
    rw [hb] at hK
    exact post_val h hd hK (RepP.one rfl (constA_ok h e (.slice none 0 0) rfl))
  | false =>
    rw [hb] at hK
    simp only [Bool.or_eq_false_iff] at hb
    have hne : 16 * o.dst.getD 0 ≠ 0 := by
      intro e0
      have h2 := hb.2
      have : o.dst.getD 0 = 0 := (Nat.mul_eq_zero.1 e0).resolve_left (by decide)
      rw [this] at h2; cases h2
    refine ⟨_, { C with τ := fun k => if k = 16 * o.dst.getD 0 then none else C.τ k }, hK, ?_⟩
    rw [app_lin]
    refine (h.lin _ hb.1 hne).put o.dst hd _ _ (RepP.one rfl ⟨.nil _ _ _, .inr ⟨by simp, fun c hc => ?_⟩⟩)
    simp only [if_true, Option.some.injEq] at hc
    subst hc
    exact ⟨Nat.le_refl _, fun _ => .inl rfl⟩
theorem bif_not {c : Bool} {p : Prop} (h : bif !c then p else False) : c = false ∧ p := by cases c; exact ⟨rfl, h⟩; exact h.elim
/-- **Every operation that is read.** -/
theorem ev_sound (hT : TabOk P T) (h : Rel P G f C a w) (hd : ∀ d, o.dst = some d → d < G.n) (hK : evOp P T f ok o K) : o.wp P a w (Post P G f o.dst K) Q := by
  unfold evOp at hK
  simp only at hK
  split at hK
  case h_1 x hop => exact s_move h hd x _ (.inl hop) hK
  case h_2 x hop =>
    cases hb : isNilC x with
    | true => rw [hb] at hK; rw [isNilC_eq hb] at hop; exact s_assign_nil h hd _ hop hK
    | false => rw [hb] at hK; exact s_move h hd x _ (.inr hop) hK
  case h_3 c x y hop => exact s_pick h hd c x y _ hop hK
  case h_4 t hop => exact s_alloc hT h hd t hop (bif_not hK)
  case h_5 t x hop => exact s_box h hd t x _ hop (by
      split at hK
      · rename_i p e1; rw [e1]; exact bif_not hK
      · exact hK.elim)
  case h_6 t parts hop => exact s_build hT h hd t parts hop hK
  case h_7 t n parts hop =>
    obtain ⟨h1, hK⟩ := bif_true hK
    exact s_buildSlice hT h hd t n parts hop hK (ble_le h1)
  case h_8 t x hop => exact s_load (ok := ok) hT h hd t x hop (by
      split at hK
      · rename_i b off e1
        rw [e1]
        split at hK
        · rename_i cs hm; simp only [hm]; exact bif_true hK
        · exact hK.elim
      · rename_i cs e1; rw [e1]; exact hK
      · exact hK.elim)
  case h_9 t x y hop => exact s_store (ok := ok) hT h hd t x y _ hop (by
      split at hK
      · rename_i b off p e1 e2
        rw [e1, e2]
        split at hK
        · rename_i cs hm; simp only [hm]; exact bif_true hK
        · exact hK.elim
      · exact hK.elim)
  case h_10 x hop => exact s_nil h hd x hop hK
  case h_11 op t x y ty hop => exact s_bin hT h hd op t ty x y hop hK
  case h_12 t x hop => exact s_not h hd t x hop hK
  case h_13 t x hop => exact s_neg h hd t x hop hK
  case h_14 src dst x hop => exact s_convert hT h hd src dst x hop hK
  case h_15 t l c hop => exact s_makeSlice hT h hd t l c hop hK
  case h_16 t x lo hi mx hop => exact s_slice hT h hd t x lo hi mx hop hK
  case h_17 t x j hop => exact s_fieldAddr hT h hd t x j hop hK
  case h_18 t x j hop => exact s_field hT h hd t x j hop hK
  case h_19 t x ix hop => exact s_indexAddr hT h hd t x ix hop hK
  case h_20 x j hop => exact s_extract h hd x j hop hK
  case h_21 c hop =>
    split at hK
    case h_1 args tys g hc => exact s_call h hd c g hop (.func g) hc rfl _ hK
    case h_2 args tys x hc =>
      split at hK
      · rename_i g e1
        have hr := h.env x
        rw [e1] at hr
        exact s_call h hd c g hop (.tmp x) hc (inv_fn hr) _ hK
      · exact hK.elim
    case h_3 x t r hc hargs htys => exact s_len hT h hd c x t r hop hc hargs htys hK
    case h_4 l hc => exact s_min h hd c hop hc hK
    case h_5 x y t0 t1 hc hargs htys =>
      obtain ⟨h1, hK1⟩ := bif_true hK
      obtain rfl := Nat.eq_of_beq_eq_true h1
      exact s_append hT h hd c x y t0 hop hc hargs htys _ _ hK1
    case h_6 => exact hK.elim
  case h_22 => exact hK.elim
end
end Go.Proofs.Ytpeejmolbmhjjaa.Sx
