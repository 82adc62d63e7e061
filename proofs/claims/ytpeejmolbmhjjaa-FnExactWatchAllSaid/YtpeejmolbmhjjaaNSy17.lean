/- The contract of a function out of what its body comes to; there is no condition beyond those each statement names. -/
import Derived.Test.YtpeejmolbmhjjaaNSy16
namespace Go.Proofs.Ytpeejmolbmhjjaa.Sx
set_option linter.unusedSimpArgs false
set_option linter.unusedVariables false
open Go
section
variable {P : Program} {T : TT} {G : Gd}
theorem tabOk_of {P : Program} {T : TT} (h : T.map (fun x => (x.1, tiOf P x.1)) = T) : TabOk P T := by
  intro t i hl
  have h1 := lk_mem hl
  rw [← h] at h1
  obtain ⟨x, hx, he⟩ := List.mem_map.1 h1
  obtain ⟨e1, e2⟩ := Prod.mk.inj he
  rw [← e2, e1]
def resM (tmps : Array Value) : ResultVar → Sem Value
  | .tmp t => pure (tmps.getD t undef)
  | .cell a t => do loadVar t (← asAddr (tmps.getD a undef))
theorem run_resV (hT : TabOk P T) {s : St} {C : Cx} {a : Act} {w : World} (h : Rel P G s.fs C a w) (r : ResultVar) (p : PV) (hp : resV T s r = some p) : ∃ v, (resM a.tmps r).run P w = .ok v w ∧ RepP (RepA P C s.fs w) p v := by
  cases r with
  | tmp t =>
    simp only [resV] at hp
    split at hp
    · rename_i q hq
      obtain rfl := Option.some.inj hp
      have := h.env t
      rw [hq] at this
      exact ⟨_, rfl, this⟩
    · cases hp
  | cell t ty =>
    simp only [resV] at hp
    split at hp
    · rename_i b off hq
      split at hp
      · rename_i cs hm
        cases hb : Nat.ble (off + (ti T ty).sz) cs.length && (ti T ty).ok with
        | false => rw [hb] at hp; cases hp
        | true =>
          rw [hb] at hp
          simp only [Bool.and_eq_true] at hb
          have h1 := ble_le hb.1
          obtain rfl := Option.some.inj hp
          have hx := h.env t
          rw [hq] at hx
          obtain ⟨hv, _⟩ := inv_ptr hx
          obtain ⟨_, ⟨arr, ty2, hg, hr⟩, _⟩ := h.mem b cs hm
          obtain ⟨v, hrun, hrep⟩ := run_loadVar (f := s.fs) (C := C) hT hb.2 (C.β b) off ((cs.drop off).take (ti T ty).sz) ((arr.toList.drop off).take (ti T ty).sz) (by simp; omega) ((hr.drop off).take _) (fun j u hj => by
            rw [List.getElem?_take] at hj
            split at hj
            · rw [List.getElem?_drop] at hj
              rw [cell_of_row w _ _ arr ty2 _ hg]; simpa using hj
            · cases hj)
          refine ⟨v, ?_, hrep⟩
          simp only [resM, Sem.run_bind, hv, asAddr, Sem.run_pure, Result.andThen_ok, hrun]
      · cases hp
    · cases hp
theorem run_resVs (hT : TabOk P T) {s : St} {C : Cx} {a : Act} {w : World} (h : Rel P G s.fs C a w) : ∀ (rs : List ResultVar) (ps : List PV), resVs T s rs = some ps →
    ∃ vs : List Value, (rs.mapM (resM a.tmps)).run P w = .ok vs w ∧ ps.length = vs.length ∧ ∀ (j : Nat) (p : PV) (v : Value), ps[j]? = some p → vs[j]? = some v → RepP (RepA P C s.fs w) p v
  | [], ps, hp => by
    obtain rfl := Option.some.inj hp
    exact ⟨[], by simp, rfl, fun j p v hp => by simp at hp⟩
  | r :: rs, ps, hp => by
    simp only [resVs] at hp
    split at hp
    · rename_i p qs h1 h2
      obtain rfl := Option.some.inj hp
      obtain ⟨v, g1, g2⟩ := run_resV hT h r p h1
      obtain ⟨vs, g3, g4, g5⟩ := run_resVs hT h rs qs h2
      refine ⟨v :: vs, by simp [List.mapM_cons, g1, g3], by simp [g4], fun j q u hq hu => ?_⟩
      cases j with
      | zero => simp at hq hu; subst hq; subst hu; exact g2
      | succ j => exact g5 j q u (by simpa using hq) (by simpa using hu)
    · cases hp
theorem tkOf_lk {cur : Nat → Option Nat} : ∀ {ex : List (Nat × Nat)}, exOk cur ex = true → ∀ {k v}, lk (tkOf cur ex) k = some v → ∃ t, lk ex t = some k ∧ cur t = some v ∧ 2 ≤ t ∧ 2 ≤ k ∧ k < 9
  | [], _, k, v, h => by cases h
  | (t, k0) :: r, he, k, v, h => by
    simp only [exOk, Bool.and_eq_true] at he
    obtain ⟨⟨⟨⟨⟨e1, e2⟩, e3⟩, e4⟩, e5⟩, e6⟩ := he
    cases hc : cur t with
    | none => rw [hc] at e1; cases e1
    | some v0 =>
      simp only [tkOf, hc, lk] at h
      cases hb : Nat.beq k0 k with
      | true =>
        rw [hb] at h
        obtain rfl := Option.some.inj h
        obtain rfl := Nat.eq_of_beq_eq_true hb
        exact ⟨t, by simp [lk], hc, ble_le e2, ble_le e3, Nat.lt_of_succ_le (Nat.le_of_ble_eq_true e4)⟩
      | false =>
        rw [hb] at h
        obtain ⟨t', g1, g2, g3⟩ := tkOf_lk e6 h
        have hne : Nat.beq t t' = false := by
          have := List.all_eq_true.1 e5 _ (lk_mem g1)
          simp only [Bool.and_eq_true, Bool.not_eq_true'] at this
          rw [beq_comm]; exact this.1
        exact ⟨t', by simp only [lk, hne, cond_false]; exact g1, g2, g3⟩
theorem ex_inj {cur : Nat → Option Nat} : ∀ {ex : List (Nat × Nat)}, exOk cur ex = true → ∀ {t t' k}, lk ex t = some k → lk ex t' = some k → t = t'
  | [], _, t, t', k, h, _ => by cases h
  | (t0, k0) :: r, he, t, t', k, h, h' => by
    simp only [exOk, Bool.and_eq_true] at he
    obtain ⟨⟨⟨⟨⟨e1, e2⟩, e3⟩, e4⟩, e5⟩, e6⟩ := he
    have out : ∀ s, lk r s = some k0 → False := fun s hs => by
      have := List.all_eq_true.1 e5 _ (lk_mem hs)
      simp at this
    simp only [lk] at h h'
    cases hb : Nat.beq t0 t with
    | true =>
      rw [hb] at h
      obtain rfl := Option.some.inj h
      cases hb' : Nat.beq t0 t' with
      | true => rw [← Nat.eq_of_beq_eq_true hb, Nat.eq_of_beq_eq_true hb']
      | false => rw [hb'] at h'; exact (out _ h').elim
    | false =>
      rw [hb] at h
      cases hb' : Nat.beq t0 t' with
      | true =>
        rw [hb'] at h'
        obtain rfl := Option.some.inj h'
        exact (out _ h).elim
      | false => rw [hb'] at h'; exact ex_inj e6 h h'
theorem ex_tk {cur : Nat → Option Nat} : ∀ {ex : List (Nat × Nat)}, exOk cur ex = true → ∀ {t k}, lk ex t = some k → ∃ v, cur t = some v ∧ lk (tkOf cur ex) k = some v
  | [], _, t, k, h => by cases h
  | (t0, k0) :: r, he, t, k, h => by
    simp only [exOk, Bool.and_eq_true] at he
    obtain ⟨⟨⟨⟨⟨e1, e2⟩, e3⟩, e4⟩, e5⟩, e6⟩ := he
    cases hc : cur t0 with
    | none => rw [hc] at e1; cases e1
    | some v0 =>
      simp only [lk] at h
      simp only [tkOf, hc, lk]
      cases hb : Nat.beq t0 t with
      | true =>
        rw [hb] at h
        obtain rfl := Option.some.inj h
        exact ⟨v0, by rw [← Nat.eq_of_beq_eq_true hb]; exact hc, by simp⟩
      | false =>
        rw [hb] at h
        obtain ⟨v, g1, g2⟩ := ex_tk e6 h
        have hne : Nat.beq k0 k = false := by
          have := List.all_eq_true.1 e5 _ (lk_mem h)
          simp only [Bool.and_eq_true, Bool.not_eq_true'] at this
          rw [beq_comm]; exact this.2
        exact ⟨v, g1, by rw [hne]; exact g2⟩
theorem ex_self {cur : Nat → Option Nat} : ∀ {ex : List (Nat × Nat)}, exOk cur ex = true → ∀ x ∈ ex, lk ex x.1 = some x.2
  | [], _, x, hx => by cases hx
  | (y1, y2) :: r, hex, x, hx => by
    simp only [exOk, Bool.and_eq_true] at hex
    obtain ⟨⟨⟨⟨⟨e1, e2⟩, e3⟩, e4⟩, e5⟩, e6⟩ := hex
    simp only [lk]
    rcases List.mem_cons.1 hx with rfl | hx
    · simp
    · have := List.all_eq_true.1 e5 x hx
      simp only [Bool.and_eq_true, Bool.not_eq_true'] at this
      rw [beq_comm y1 x.1, this.1]
      exact ex_self e6 x hx
def τex (ex : List (Nat × Nat)) (τ : Nat → Option (Nat × Nat × Nat)) (k : Nat) : Option (Nat × Nat × Nat) := match (ex.find? fun x => Nat.beq x.2 k) with | some x => τ x.1 | none => none
theorem τex_eq {ex : List (Nat × Nat)} {τ : Nat → Option (Nat × Nat × Nat)} {k : Nat} {x : Nat × Nat} (h : (ex.find? fun x => Nat.beq x.2 k) = some x) : τex ex τ k = τ x.1 := by unfold τex; rw [h]
theorem memOf_get {m : Nat → Option (List AV)} : ∀ {ks : List Nat} {ms : List (List AV)}, memOf m ks = some ms → ms.length = ks.length ∧ ∀ (j k : Nat) (cs : List AV), ks[j]? = some k → ms[j]? = some cs → ∃ c0, m k = some c0 ∧ stripV c0 = cs
  | [], ms, h => by
    obtain rfl := Option.some.inj h
    exact ⟨rfl, fun j k cs hk => by simp at hk⟩
  | k :: r, ms, h => by
    simp only [memOf] at h
    split at h
    · rename_i cs l h1 h2
      obtain rfl := Option.some.inj h
      obtain ⟨g1, g2⟩ := memOf_get h2
      refine ⟨by simp [g1], fun j k' cs' hk hc => ?_⟩
      cases j with
      | zero => simp at hk hc; subst hk; subst hc; exact ⟨cs, h1, rfl⟩
      | succ j => exact g2 j k' cs' (by simpa using hk) (by simpa using hc)
    · cases h
theorem lk_zip {args : List PV} {k : Nat} {v : TV} : ∀ (l : List PV) (n : Nat), lk ((l.zipIdx n).map fun x => (x.2, TV.pv x.1)) k = some v → n ≤ k ∧ ∃ p, l[k - n]? = some p ∧ v = .pv p
  | [], n, h => by cases h
  | p :: l, n, h => by
    simp only [List.zipIdx_cons, List.map_cons, lk] at h
    cases hb : Nat.beq n k with
    | true =>
      rw [hb] at h
      obtain rfl := Option.some.inj h
      have := Nat.eq_of_beq_eq_true hb
      exact ⟨by omega, p, by simp [this], rfl⟩
    | false =>
      rw [hb] at h
      obtain ⟨h1, q, h2, h3⟩ := lk_zip (args := args) l (n + 1) h
      refine ⟨by omega, q, ?_, h3⟩
      rw [show k - n = (k - (n + 1)) + 1 by omega]; simpa using h2
theorem chunks_get (sz : Nat) : ∀ (n : Nat) (cs : List AV), cs.length = n * sz → ∀ (j c : Nat) (xs : List AV) (x : AV), (chunks sz n cs)[j]? = some xs → xs[c]? = some x → cs[j * sz + c]? = some x
  | 0, cs, h, j, c, xs, x, hx, hy => by simp [chunks] at hx
  | n + 1, cs, h, j, c, xs, x, hx, hy => by
    cases j with
    | zero =>
      simp only [chunks, List.getElem?_cons_zero, Option.some.injEq] at hx
      subst hx
      rw [List.getElem?_take] at hy
      split at hy
      · simpa using hy
      · cases hy
    | succ j =>
      simp only [chunks, List.getElem?_cons_succ] at hx
      have := chunks_get sz n (cs.drop sz) (by simp [h, Nat.add_mul]) j c xs x hx hy
      rw [List.getElem?_drop] at this
      rw [← this]
      congr 1
      rw [Nat.add_mul]; omega
/-- What is to be shown, and not looked into before. -/

structure Hold (p : Prop) : Prop where
  out : p
/-- **A function's contract, out of what its body comes to.** -/
theorem fn_of_vc (hT : TabOk P T) (hm : P.follows .mixedOrders = true) {g : FuncId} {fn : Func} {code : Code} (hgo : Goes P g) (hf : P.funcs[g]? = some fn) (hb : fn.body = some code) (mem : List (Nat × List AV)) (args : List PV) (R : Out → Prop)
    (hok : codeOk fn.ntmps code = true) (hargs : (args.all fun p => p.2.all fun x => patA (mem.map (·.1)) [] x && notN x) = true) (hmem : (mem.all fun x => x.2.all AV.clean && !Nat.beq x.1 0) = true) (hnt : (Nat.ble args.length fn.ntmps && Nat.ble fn.ntmps K0) = true)
    (h : vc P T (mem.map (·.1)) code (st0 mem args) fun e s => match e with | .exit _ => False | _ => Hold (atRet T fn.results.toList (mem.map (·.1)) R s)) : FnM P g mem args R := by
  refine ⟨hgo, fun F β U w vals hF hU0 hbox hinj hlen hrep => ?_⟩
  let G : Gd := { n := fn.ntmps, w0 := w, pb := fun b => ∃ p ∈ mem, b = β p.1, F0 := F, pk := fun k => k ∈ mem.map (·.1), pβ := β }
  let C : Cx := { F := F, β := fun k => if k = K0 then w.heap.size else β k, τ := fun _ => none }
  have hargs' := List.all_eq_true.1 hargs
  have hmem' := List.all_eq_true.1 hmem
  simp only [Bool.and_eq_true] at hnt
  have hsz := ble_le hnt.1
  have hKb : ∀ b, U b = true → C.β b = β b := fun b hb => if_neg fun e => by rw [e, hU0.2] at hb; cases hb
  have ubk : ∀ k, (st0 mem args).fs.ub k = true → ∃ p ∈ mem, p.1 = k := fun k hk => by
    have := anyB hk
    obtain ⟨p, hp, rfl⟩ := List.mem_map.1 this
    exact ⟨p, hp, rfl⟩
  have kub : ∀ p ∈ mem, (st0 mem args).fs.ub p.1 = true := fun p hp => List.any_eq_true.2 ⟨p.1, List.mem_map.2 ⟨p, hp, rfl⟩, by simp⟩
  have toA : ∀ x v, Rep P F β U w x v → patA (mem.map (·.1)) [] x = true → notN x = true → RepA P C (st0 mem args).fs w x v := fun x v hx hp hnn => by
    cases x with
    | ptr b o =>
      cases hx with
      | ptr _ _ hu => rw [← hKb b hu]; exact ⟨.ptr b o hp, trivial⟩
    | row bx n e =>
      cases hx with
      | row _ _ _ hu => rw [← hKb bx hu]; exact ⟨.row bx n e hp, trivial⟩
    | nl e es => cases hnn
    | lst t v2 e es =>
      refine ⟨hx.cleanly' rfl, ?_⟩
      have h0 : t = 0 := by simpa [patA] using hp
      subst h0
      unfold Tip; cases v <;> first | exact .inl rfl | trivial
    | _ => exact ⟨hx.cleanly' rfl, trivial⟩
  have toAc : ∀ x v, Rep P F β U w x v → x.clean = true → RepA P C (st0 mem args).fs w x v := fun x v hx hc => by
    have h1 : patA (mem.map (·.1)) [] x = true := by
      cases x with
      | lst t v2 e es => simp only [patA, Bool.or_eq_true]; exact .inl hc
      | ptr => cases hc
      | row => cases hc
      | _ => rfl
    exact toA x v hx h1 (by cases x <;> first | rfl | (cases hc))
  have hRel : Rel P G (st0 mem args).fs C { tmps := vals ++ Array.replicate (fn.ntmps - vals.size) undef, defers := [] } w := {
    nle := ble_le hnt.2
    bas := show (if K0 = K0 then w.heap.size else β K0) = w.heap.size from if_pos rfl
    ubK := by
      cases hq : (st0 mem args).fs.ub K0 with
      | false => rfl
      | true => obtain ⟨p, hp, hpk⟩ := ubk K0 hq; have := (hbox p hp).1; rw [hpk, hU0.2] at this; cases this
    sz := by simp only [Array.size_append, Array.size_replicate]; show _ = fn.ntmps; omega
    df := rfl
    env := fun k => by
      show RepT _ (match lk (args.zipIdx.map fun x => (x.2, TV.pv x.1)) k with | some v => v | none => .no) _
      cases hq : lk (args.zipIdx.map fun x => (x.2, TV.pv x.1)) k with
      | none => trivial
      | some v =>
        obtain ⟨_, p, h1, rfl⟩ := lk_zip (args := args) args 0 hq
        rw [Nat.sub_zero] at h1
        have hk : k < vals.size := by rw [← hlen]; exact (List.getElem?_eq_some_iff.1 h1).1
        have hv : (vals ++ Array.replicate (fn.ntmps - vals.size) undef).getD k undef = vals[k] := by
          rw [Array.getD_eq_getD_getElem?, Array.getElem?_append_left hk, Array.getElem?_eq_getElem hk]; rfl
        rw [hv]
        have h2 := hrep k p _ h1 (Array.getElem?_eq_getElem hk)
        have h3 := List.all_eq_true.1 (hargs' p (List.mem_of_getElem? h1))
        exact ⟨⟨h2.1.1, fun j x u hx hu => by have h4 := h3 x (List.mem_of_getElem? hx); simp only [Bool.and_eq_true] at h4; exact toA x u (h2.1.2 j x u hx hu) h4.1 h4.2⟩, h2.2⟩
    mem := fun b cs hb => by
      have hp := lk_mem hb
      obtain ⟨h1, ⟨arr, ty, h2, h3⟩, h4⟩ := hbox _ hp
      have h5 := hmem' _ hp
      simp only [Bool.and_eq_true] at h5
      have h5 := List.all_eq_true.1 h5.1
      have hK := hKb _ h1
      dsimp only at hK
      rw [hK]
      exact ⟨kub _ hp, ⟨arr, ty, h2, ⟨h3.1, fun j x u hx hu => toAc x u (h3.2 j x u hx hu) (h5 x (List.mem_of_getElem? hx))⟩⟩, .inr ⟨_, hp, rfl⟩, h4⟩
    inj := fun b b' cs cs' hb hb' he => by
      have h1 := hKb _ (hbox _ (lk_mem hb)).1
      have h2 := hKb _ (hbox _ (lk_mem hb')).1
      dsimp only at h1 h2
      rw [h1, h2] at he
      exact hinj _ (lk_mem hb) _ (lk_mem hb') he
    tok := fun t v blk hi top _ ht => by cases ht
    tin := fun t t' v v' blk hi top hi' top' _ _ ht _ => by cases ht
    cut := fun t v hc => by
      have : (t, v) ∈ [(1, 0)] := lk_mem hc
      simp at this
      rw [this.1]; rfl
    one := ⟨rfl, rfl, rfl⟩
    zro := rfl
    F0 := fun b c hF => hF
    glt := hF
    new := fun b c hF => .inl hF
    lt := hF
    pk := fun k hk => by
      obtain ⟨p, hp, rfl⟩ := List.mem_map.1 hk
      exact ⟨hKb _ (hbox p hp).1, kub p hp⟩
    os := rfl, tape := rfl, out := rfl
    size := Nat.le_refl _
    block := fun _ _ _ => rfl }
  have key : ∀ (s : St) (C' : Cx) (a' : Act) (w' : World), atRet T fn.results.toList (mem.map (·.1)) R s → Rel P G s.fs C' a' w' →
      a'.defers = [] ∧ ∃ v, (results fn a'.tmps).run P w' = .ok v w' ∧ ∃ (v' : Value) (o : Out) (F' : Nat → Nat → Prop) (bn : Nat) (τ : Nat → Option (Nat × Nat × Nat)), Ending.returned v = .returned v' ∧ R o ∧ Ret P F β U w mem o F' bn τ v' w' := by
    intro s C' a' w' hr hR
    refine ⟨hR.df, ?_⟩
    have hpβ : ∀ p ∈ mem, C'.β p.1 = β p.1 := fun p hp => (hR.pk p.1 (List.mem_map.2 ⟨p, hp, rfl⟩)).1
    have plnOf : ∀ ms, memOf s.fs.mem (mem.map (·.1)) = some ms → Plain w w' := fun ms hms b hb => by
      by_cases hp : ∃ p ∈ mem, b = β p.1
      · obtain ⟨p, hp, rfl⟩ := hp
        have hmget := memOf_get hms
        obtain ⟨j, hj⟩ := List.getElem?_of_mem hp
        have hk : (mem.map (·.1))[j]? = some p.1 := by rw [List.getElem?_map, hj]; rfl
        have hlt : j < ms.length := by rw [hmget.1]; exact (List.getElem?_eq_some_iff.1 hk).1
        obtain ⟨c1, h5, _⟩ := hmget.2 j p.1 _ hk (List.getElem?_eq_getElem hlt)
        obtain ⟨_, ⟨arr, ty, h6, _⟩, _⟩ := hR.mem p.1 c1 h5
        rw [hpβ p hp] at h6
        exact ⟨arr, ty, h6⟩
      · have hlt : b < w.heap.size := by
          obtain ⟨arr, ty, h6⟩ := hb
          exact (Array.getElem?_eq_some_iff.1 h6).1
        rw [hR.block b hlt hp]; exact hb
    rcases hr with hr | hr
    rotate_left
    · obtain ⟨b, n, e, cs, ms, nw, hps, hbk, hmb, hcl, hlen, hok, hms, hmcl, hnw, hRo⟩ := hr
      obtain ⟨vs, hrun, hvl, hvr⟩ := run_resVs hT hR _ _ hps
      obtain ⟨v, rfl⟩ := List.length_eq_one_iff.1 (show vs.length = 1 by simpa using hvl.symm)
      have hresults : (results fn a'.tmps).run P w' = .ok v w' := by
        have e : results fn a'.tmps = ((fn.results.mapM (resM a'.tmps)) >>= fun vs => pure (if h : vs.size = 1 then vs[0] else .tuple vs)) := by
          unfold results
          refine congrArg (fun m : Sem (Array Value) => m >>= fun vs => pure (if h : vs.size = 1 then vs[0] else .tuple vs)) ?_
          refine congrArg (fun g => fn.results.mapM g) ?_
          funext x
          cases x <;> rfl
        rw [e, Array.mapM_eq_mapM_toList]
        simp [hrun]
      obtain ⟨h1, ⟨arr, ty, h2, h3⟩, h4, h5⟩ := hR.mem b cs hmb
      have hnk : b ∉ mem.map (·.1) := fun hm => by
        have : mem? (mem.map (·.1)) b = true := List.any_eq_true.2 ⟨b, hm, by simp⟩
        rw [this] at hbk; cases hbk
      have hmget := memOf_get hms
      have hmcl' := List.all_eq_true.1 hmcl
      have hne : ∀ p ∈ mem, C'.β b ≠ β p.1 := fun p hp heq => by
        have hc : ∃ c1, s.fs.mem p.1 = some c1 := by
          obtain ⟨j, hj⟩ := List.getElem?_of_mem hp
          have hk : (mem.map (·.1))[j]? = some p.1 := by rw [List.getElem?_map, hj]; rfl
          have hlt : j < ms.length := by rw [hmget.1]; exact (List.getElem?_eq_some_iff.1 hk).1
          obtain ⟨c1, h5, _⟩ := hmget.2 j p.1 _ hk (List.getElem?_eq_getElem hlt)
          exact ⟨c1, h5⟩
        obtain ⟨c1, hc1⟩ := hc
        have := hR.inj b p.1 cs c1 hmb hc1 (by rw [hpβ p hp]; exact heq)
        exact hnk (List.mem_map.2 ⟨p, hp, this.symm⟩)
      have hge : w.heap.size ≤ C'.β b := by
        rcases h4 with h4 | ⟨p, h6, h7⟩
        · exact h4
        · exact absurd h7 (hne p h6)
      let F2 : Nat → Nat → Prop := fun blk o => C'.F blk o ∧ blk ≠ C'.β b
      have toF : ∀ (cs : List AV) (vs : List Value), RepL (RepA P C' s.fs w') cs vs → (∀ x ∈ stripV cs, x.clean = true) → RepL (Rep P F2 β U w') (stripV cs) vs := fun cs vs hr hcl => by
        have h1 := strip_rep (F := C'.F) (β := C'.β) (U := s.fs.ub) hr
        exact ⟨h1.1, fun j x u hx hu => ((h1.2 j x u hx hu).cleanly (β' := β) (U' := U) (hcl x (List.mem_of_getElem? hx))).keep (F' := F2) (fun b o u hc hF => ⟨hc, fun hh => hF hh.1⟩) (fun b hb => ⟨hb, rfl⟩) rfl (Plain.same _)⟩
      refine ⟨v, hresults, v, _, F2, 0, fun _ => none, rfl, hRo, ?_⟩
      exact {
        os := hR.os, tape := hR.tape, out := hR.out, size := hR.size, pln := plnOf ms hms
        block := fun k hk hp => hR.block k hk (fun ⟨p, h1, h2⟩ => hp p h1 h2)
        len := by rw [hmget.1]; simp
        mem := fun j p cs hp hcs => by
          have hk : (mem.map (·.1))[j]? = some p.1 := by rw [List.getElem?_map, hp]; rfl
          obtain ⟨c0, h1, rfl⟩ := hmget.2 j p.1 cs hk hcs
          have hcl := List.all_eq_true.1 (hmcl' _ (List.mem_of_getElem? hcs))
          obtain ⟨_, ⟨arr, ty, h2, h3⟩, _⟩ := hR.mem p.1 c0 h1
          rw [hpβ p (List.mem_of_getElem? hp)] at h2
          exact ⟨fun x hx => hcl x hx, arr, ty, h2, toF _ _ h3 hcl⟩
        F1 := fun b c hF => ⟨hR.F0 b c hF, fun he => by have := hR.glt b c hF; have : b < w.heap.size := this; omega⟩
        F2 := fun b c hF => by
          rcases hR.new b c hF.1 with h1 | h1 | ⟨p, h1, h2⟩
          · exact .inl h1
          · exact .inr h1
          · exact .inl (by rw [h2]; exact (hbox p h1).2.2 c)
        F3 := fun b c hF => hR.lt b c hF.1
        new := fun cs hcs => by cases hcs
        tk := fun t v ht => by cases ht
        tok := fun k v blk hi top hk hτ => by cases hk
        tin := fun k k' v v' blk hi top hi' top' hk hk' hτ hτ' => by cases hk
        res := by
          have hv := hvr 0 _ v rfl rfl
          obtain ⟨ho, hA⟩ := hv.one_inv
          have hA1 := hA.1
          cases hA1 with
          | row _ _ _ hub =>
            refine RepP.one rfl ⟨?_, by cases nw <;> first | exact .inl rfl | trivial⟩
            obtain ⟨i_, z_, g1, g2, g3, g4, g5, g6, g7, g8, g9, g10⟩ := ti_info hT hok
            have hsl : (stripV cs).length = n * (ti T e).sz := by simp [stripV, hlen]
            have hchl : (chunks (ti T e).sz n (stripV cs)).length = n := chunks_len _ _ _
            have hce := chunks_each (ti T e).sz n (stripV cs) hsl
            have hR2 := toF cs _ h3 hcl
            have hget : ∀ (j c : Nat) (xs : List AV) (x : AV), (chunks (ti T e).sz n (stripV cs))[j]? = some xs → xs[c]? = some x → (stripV cs)[j * (ti T e).sz + c]? = some x := fun j c xs x hx hy => chunks_get _ n _ hsl j c xs x hx hy
            have hlt : ∀ k x, (stripV cs)[k]? = some x → k < arr.size := fun k x hk => by
              have h6 := hR2.1
              simp only [Array.length_toList] at h6
              rw [← h6]; exact (List.getElem?_eq_some_iff.1 hk).1
            have hcell : ∀ k x, (stripV cs)[k]? = some x → w'.cell? ⟨C'.β b, 0 + k, none⟩ = some (arr.getD k undef) := fun k x hk => by
              have h6 := hlt k x hk
              rw [cell_of_row w' _ _ arr ty _ h2]
              simp [Array.getD_eq_getD_getElem?, h6]
            cases nw with
            | true =>
              have hNW := hnw rfl
              have hR3 : RepL (Rep P F2 (fun k => if (none : Option (List AV)).isSome = true ∧ k = 0 then 0 else if k = K0 then w.heap.size else β k) (fun k => ((none : Option (List AV)).isSome && Nat.beq k 0) || U k) w') cs arr.toList := ⟨h3.1, fun j x u hx hu => by
                have h6 := (h3.2 j x u hx hu).1
                have h7 : x.cn = true := by have := hNW x (List.mem_of_getElem? hx); cases x <;> first | rfl | (cases this)
                refine (h6.cleanN (β' := fun k => if (none : Option (List AV)).isSome = true ∧ k = 0 then 0 else if k = K0 then w.heap.size else β k) (U' := fun k => ((none : Option (List AV)).isSome && Nat.beq k 0) || U k) ?_ h7).keep (F' := F2) (fun b o u hc hF => ⟨hc, fun hh => hF hh.1⟩) (fun b hb => ⟨hb, rfl⟩) rfl (Plain.same _)
                show (if (none : Option (List AV)).isSome = true ∧ K0 = 0 then 0 else if K0 = K0 then w.heap.size else β K0) ≤ C'.β K0
                rw [hR.bas]
                rw [if_neg (by simp), if_pos rfl]
                exact Nat.le_refl _⟩
              have hsub : ∀ (k : Nat) (x : AV), (stripV cs)[k]? = some x → ∃ y, cs[k]? = some y ∧ x.nu = y := fun k x hk => by
                simp only [stripV, List.getElem?_map] at hk
                cases hq : cs[k]? with
                | none => rw [hq] at hk; cases hk
                | some y =>
                  rw [hq] at hk
                  obtain rfl := Option.some.inj hk
                  refine ⟨y, rfl, ?_⟩
                  have := hNW y (List.mem_of_getElem? hq)
                  cases y <;> first | rfl | (cases this)
              have hvget : ∀ (j c : Nat) (xs : List AV) (x : AV), (chunks (ti T e).sz n (stripV cs))[j]? = some xs → xs[c]? = some x → ∃ y, x.nu = y ∧ newA T y = true ∧
                  RepA P C' s.fs w' y (arr.getD (j * (ti T e).sz + c) undef) ∧ Rep P F2 (fun k => if (none : Option (List AV)).isSome = true ∧ k = 0 then 0 else if k = K0 then w.heap.size else β k) (fun k => ((none : Option (List AV)).isSome && Nat.beq k 0) || U k) w' y (arr.getD (j * (ti T e).sz + c) undef) := fun j c xs x hx hy => by
                have h6 := hget j c xs x hx hy
                have h7 := hlt _ _ h6
                obtain ⟨y, h8, h9⟩ := hsub _ _ h6
                have h10 : arr.toList[j * (ti T e).sz + c]? = some (arr.getD (j * (ti T e).sz + c) undef) := by simp [Array.getD_eq_getD_getElem?, h7]
                exact ⟨y, h9, hNW y (List.mem_of_getElem? h8), h3.2 _ _ _ h8 h10, hR3.2 _ _ _ h8 h10⟩
              have h9 := Rep.nl (P := P) (F := F2) (β := fun k => if (none : Option (List AV)).isSome = true ∧ k = 0 then 0 else if k = K0 then w.heap.size else β k) (U := fun k => ((none : Option (List AV)).isSome && Nat.beq k 0) || U k) (w := w') e (chunks (ti T e).sz n (stripV cs)) (C'.β b) n (fun j c => arr.getD (j * (ti T e).sz + c) undef)
                (by rw [hchl]; exact Nat.le_refl _) (fun xs hxs => by rw [g10]; exact (hce xs hxs).1)
                (fun j c xs x hx hy => by
                  have h6 := hget j c xs x hx hy
                  rw [g10]
                  exact ⟨hcl x (List.mem_of_getElem? h6), hcell _ _ h6, fun hh => hh.2 rfl⟩)
                ⟨⟨arr, ty, h2⟩, by
                  show (if (none : Option (List AV)).isSome = true ∧ K0 = 0 then 0 else if K0 = K0 then w.heap.size else β K0) ≤ C'.β b
                  rw [if_neg (by simp), if_pos rfl]; exact hge, fun j c xs x hx hy a n' m' hv' hn' => by
                  obtain ⟨y, _, h11, h12, _⟩ := hvget j c xs x hx hy
                  rw [hv'] at h12
                  have h12 := h12.1
                  cases y with
                  | nl e' es' =>
                    simp only [newA, Bool.and_eq_true] at h11
                    obtain ⟨_, _, _, _, _, _, _, _, _, _, _, k10⟩ := ti_info hT h11.2
                    have k1 := ble_le h11.1
                    cases h12 with
                    | nl _ _ blk cap vals q1 q2 q3 q4 q5 =>
                      intro heq
                      cases es' with
                      | nil => simp at hn'
                      | cons xs0 r0 =>
                        have l1 := q2 xs0 (by simp)
                        rw [k10] at l1
                        cases xs0 with
                        | nil => simp at l1; omega
                        | cons x0 xr =>
                          have := (q3 0 0 (x0 :: xr) x0 rfl rfl).2.2
                          apply this
                          have heq : blk = C'.β b := heq
                          rw [heq]; exact h5 _
                  | b _ => cases h12
                  | i _ _ => cases h12
                  | s _ => cases h12
                  | _ => cases h11⟩
                (fun j c xs x hx hy => by
                  obtain ⟨y, h10, _, _, h11⟩ := hvget j c xs x hx hy
                  rw [h10]; exact h11)
              rw [hchl] at h9
              exact h9
            | false =>
            have h9 := Rep.lst (P := P) (F := F2) (β := fun k => if (none : Option (List AV)).isSome = true ∧ k = 0 then 0 else if k = K0 then w.heap.size else β k) (U := fun k => ((none : Option (List AV)).isSome && Nat.beq k 0) || U k) (w := w') 0 0 e (chunks (ti T e).sz n (stripV cs)) (C'.β b) 0 n (fun j c => arr.getD (j * (ti T e).sz + c) undef)
              (by rw [hchl]; exact Nat.le_refl _) (fun xs hxs => by rw [g10]; exact (hce xs hxs).1)
              (fun j c xs x hx hy => by
                have h6 := hget j c xs x hx hy
                rw [g10]
                exact ⟨hcl x (List.mem_of_getElem? h6), hcell _ _ h6, fun hh => hh.2 rfl⟩)
              (fun j c xs x hx hy => by
                have h6 := hget j c xs x hx hy
                have h7 := hlt _ _ h6
                have h8 := hR2.2 _ x (arr.getD (j * (ti T e).sz + c) undef) h6 (by simp [Array.getD_eq_getD_getElem?, h7])
                exact h8.cleanly (hcl x (List.mem_of_getElem? h6)))
            rw [hchl] at h9
            exact h9 }
    unfold atRetG at hr
    split at hr
    · exact hr.elim
    rename_i ps hps
    obtain ⟨ex, nb, hex, hres, hr⟩ := hr
    split at hr
    · exact hr.elim
    rename_i ms hms
    obtain ⟨hmcl, hr⟩ := hr
    obtain ⟨vs, hrun, hvl, hvr⟩ := run_resVs hT hR _ ps hps
    have hresults : (results fn a'.tmps).run P w' = .ok (if h : vs.toArray.size = 1 then vs.toArray[0] else .tuple vs.toArray) w' := by
      have e : results fn a'.tmps = ((fn.results.mapM (resM a'.tmps)) >>= fun vs => pure (if h : vs.size = 1 then vs[0] else .tuple vs)) := by
        unfold results
        refine congrArg (fun m : Sem (Array Value) => m >>= fun vs => pure (if h : vs.size = 1 then vs[0] else .tuple vs)) ?_
        refine congrArg (fun g => fn.results.mapM g) ?_
        funext x
        cases x <;> rfl
      rw [e, Array.mapM_eq_mapM_toList]
      simp [hrun]
    have hpβ : ∀ p ∈ mem, C'.β p.1 = β p.1 := fun p hp => (hR.pk p.1 (List.mem_map.2 ⟨p, hp, rfl⟩)).1
    have hmget := memOf_get hms
    have hmcl' := List.all_eq_true.1 hmcl
    have hres' := List.all_eq_true.1 hres
    -- the new box
    have hnb : ∃ nbc : Option (List AV), R { tk := tkOf s.fs.cur ex, mem := ms, nb := nbc, res := match ps with | [p] => .pv (renP ex nb p) | _ => .tup (ps.map (renP ex nb)) } ∧
        ((nb = 0 ∧ nbc = none) ∨ ∃ cs, nb ≠ 0 ∧ s.fs.mem nb = some cs ∧ nbc = some (stripV cs) ∧ (∀ x ∈ stripV cs, x.clean = true) ∧ nb ∉ mem.map (·.1)) := by
      by_cases h0 : nb = 0
      · subst h0
        simp only [show Nat.beq 0 0 = true from rfl, if_true] at hr
        exact ⟨none, hr, .inl ⟨rfl, rfl⟩⟩
      · have hb0 : ¬ (Nat.beq nb 0 = true) := fun hh => h0 (Nat.eq_of_beq_eq_true hh)
        rw [if_neg hb0] at hr
        split at hr
        · exact hr.elim
        · rename_i nbc hq
          split at hq
          · rename_i cs hcs
            split at hq
            · rename_i hcl
              simp only [Bool.and_eq_true, Bool.not_eq_true'] at hcl
              obtain rfl := Option.some.inj hq
              refine ⟨_, hr, .inr ⟨cs, h0, hcs, rfl, List.all_eq_true.1 hcl.1, fun hm => ?_⟩⟩
              have h2 := hcl.2
              have : mem? (mem.map (·.1)) nb = true := List.any_eq_true.2 ⟨nb, hm, by simp⟩
              rw [this] at h2; cases h2
            · cases hq
          · cases hq
    obtain ⟨nbc, hRo, hnbc⟩ := hnb
    refine ⟨_, hresults, _, _, C'.F, C'.β nb, τex ex C'.τ, rfl, hRo, ?_⟩
    have stripRep : ∀ (cs : List AV) (vs : List Value), RepL (RepA P C' s.fs w') cs vs → (∀ x ∈ stripV cs, x.clean = true) → RepL (Rep P C'.F β U w') (stripV cs) vs := fun cs vs hr hcl => by
      have h1 := strip_rep (F := C'.F) (β := C'.β) (U := s.fs.ub) hr
      exact ⟨h1.1, fun j x u hx hu => (h1.2 j x u hx hu).cleanly (hcl x (List.mem_of_getElem? hx))⟩
    have find_ex : ∀ k x, (ex.find? fun x => Nat.beq x.2 k) = some x → x ∈ ex ∧ x.2 = k := fun k x hx => ⟨List.mem_of_find?_eq_some hx, by have := List.find?_some hx; exact Nat.eq_of_beq_eq_true this⟩
    have ex_lk : ∀ x ∈ ex, lk ex x.1 = some x.2 := fun x hx => ex_self hex x hx
    have lk_find : ∀ t k, lk ex t = some k → ∃ x, (ex.find? fun x => Nat.beq x.2 k) = some x ∧ x.1 = t := fun t k hk => by
      have hmem := lk_mem hk
      cases hq : ex.find? fun x => Nat.beq x.2 k with
      | none =>
        have := List.find?_eq_none.1 hq _ hmem
        simp at this
      | some x =>
        obtain ⟨h1, h2⟩ := find_ex k x hq
        refine ⟨x, rfl, ?_⟩
        have := ex_lk x h1
        rw [h2] at this
        exact ex_inj hex this hk
    have mem_not_tok : ∀ t v blk hi top, s.fs.cur t = some v → C'.τ t = some (blk, hi, top) → w.heap.size ≤ blk := fun t v blk hi top h1 h2 => (hR.tok t v blk hi top h1 h2).2.1
    have resRep : ∀ p v, p ∈ ps → RepP (RepA P C' s.fs w') p v →
        RepP (fun a u => Rep P C'.F (fun k => if nbc.isSome = true ∧ k = 0 then C'.β nb else if k = K0 then w.heap.size else β k) (fun k => (nbc.isSome && Nat.beq k 0) || U k) w' a u ∧
          Tip P (τex ex C'.τ) (lk (tkOf s.fs.cur ex)) (fun t => (lk (tkOf s.fs.cur ex) t).isSome) a u) (renP ex nb p) v := by
      intro p v hp hrp
      refine ⟨⟨by simp [renP, hrp.1.1], fun j x u hx hu => ?_⟩, hrp.2⟩
      simp only [renP, List.getElem?_map] at hx
      cases hq : p.2[j]? with
      | none => rw [hq] at hx; cases hx
      | some y =>
        rw [hq] at hx
        obtain rfl := Option.some.inj hx
        have hA := hrp.1.2 j y u hq hu
        have hresA := List.all_eq_true.1 (hres' p hp) y (List.mem_of_getElem? hq)
        cases y with
        | lst t v2 e es =>
          simp only [renA]
          cases hl : lk ex t with
          | none =>
            refine ⟨hA.1.relst.cleanly' rfl, ?_⟩
            unfold Tip; cases u <;> first | exact .inl rfl | trivial
          | some k =>
            refine ⟨hA.1.relst.cleanly' rfl, ?_⟩
            obtain ⟨v0, g1, g2⟩ := ex_tk hex hl
            obtain ⟨x, g3, g4⟩ := lk_find t k hl
            unfold Tip
            cases u with
            | slice ad len cap =>
              refine .inr ⟨by simp only [g2, Option.isSome_some], fun c hc => ?_⟩
              rw [g2] at hc
              obtain rfl := Option.some.inj hc
              have hA2 := hA.2
              rcases hA2 with h0 | ⟨_, hA2⟩
              · subst h0
                rw [hR.zro] at g1; cases g1
              · have := hA2 v0 g1
                refine ⟨this.1, fun hvc => ?_⟩
                rw [τex_eq g3, g4]
                exact this.2 hvc
            | _ => trivial
        | ptr b off =>
          simp only [renA]
          simp only [resA, Bool.or_eq_true, Bool.and_eq_true, Bool.not_eq_true'] at hresA
          have hA1 := hA.1
          cases hA1 with
          | ptr _ _ hub =>
            by_cases hbn : b = nb ∧ nb ≠ 0
            · obtain ⟨rfl, hn0⟩ := hbn
              have hs : nbc.isSome = true := by
                rcases hnbc with ⟨h1, _⟩ | ⟨cs, _, _, h3, _⟩
                · exact absurd h1 hn0
                · rw [h3]; rfl
              simp only [show Nat.beq b b = true by simp, cond_true]
              refine ⟨?_, trivial⟩
              have e1 : (if nbc.isSome = true ∧ 0 = 0 then C'.β b else if 0 = K0 then w.heap.size else β 0) = C'.β b := if_pos ⟨hs, rfl⟩
              have h0 := Rep.ptr (P := P) (F := C'.F) (w := w') (β := fun k => if nbc.isSome = true ∧ k = 0 then C'.β b else if k = K0 then w.heap.size else β k) (U := fun k => (nbc.isSome && Nat.beq k 0) || U k) 0 off (by rw [hs]; rfl)
              rw [e1] at h0
              exact h0
            · have hks : b ∈ mem.map (·.1) := by
                rcases hresA with ⟨h1, h2⟩ | h1
                · exact absurd ⟨Nat.eq_of_beq_eq_true h1, fun e => by rw [e] at h2; cases h2⟩ hbn
                · exact anyB h1
              obtain ⟨p', hp', rfl⟩ := List.mem_map.1 hks
              have hne0 : p'.1 ≠ 0 := fun e => by
                have := hmem' p' hp'
                simp only [Bool.and_eq_true, Bool.not_eq_true'] at this
                rw [e] at this; cases this.2
              have hnn : Nat.beq p'.1 nb = false := by
                cases hq : Nat.beq p'.1 nb with
                | false => rfl
                | true =>
                  have := Nat.eq_of_beq_eq_true hq
                  exact absurd ⟨this, fun e => hne0 (by rw [this, e])⟩ hbn
              rw [hnn]
              refine ⟨?_, trivial⟩
              rw [hpβ p' hp']
              have e1 : (if nbc.isSome = true ∧ p'.1 = 0 then C'.β nb else if p'.1 = K0 then w.heap.size else β p'.1) = β p'.1 := by rw [if_neg (fun hh => hne0 hh.2), if_neg fun e => by have := (hbox p' hp').1; rw [e, hU0.2] at this; cases this]
              have h0 := Rep.ptr (P := P) (F := C'.F) (w := w') (β := fun k => if nbc.isSome = true ∧ k = 0 then C'.β nb else if k = K0 then w.heap.size else β k) (U := fun k => (nbc.isSome && Nat.beq k 0) || U k) p'.1 off (by rw [(hbox p' hp').1, Bool.or_true])
              rw [e1] at h0
              exact h0
        | row bx n e => cases hresA
        | nl e es =>
          refine ⟨hA.1.cleanN ?_ rfl, trivial⟩
          show (if nbc.isSome = true ∧ K0 = 0 then C'.β nb else if K0 = K0 then w.heap.size else β K0) ≤ C'.β K0
          rw [hR.bas, if_neg (fun h => by have := h.2; simp [K0] at this), if_pos rfl]
          exact Nat.le_refl _
        | _ => exact ⟨hA.1.cleanly' rfl, trivial⟩
    exact {
      os := hR.os, tape := hR.tape, out := hR.out, size := hR.size, pln := plnOf ms hms
      block := fun k hk hp => hR.block k hk (fun ⟨p, h1, h2⟩ => hp p h1 h2)
      len := by rw [hmget.1]; simp
      mem := fun j p cs hp hcs => by
        have hk : (mem.map (·.1))[j]? = some p.1 := by rw [List.getElem?_map, hp]; rfl
        obtain ⟨c0, h1, rfl⟩ := hmget.2 j p.1 cs hk hcs
        have hcl := List.all_eq_true.1 (hmcl' _ (List.mem_of_getElem? hcs))
        obtain ⟨_, ⟨arr, ty, h2, h3⟩, _⟩ := hR.mem p.1 c0 h1
        rw [hpβ p (List.mem_of_getElem? hp)] at h2
        exact ⟨hcl, arr, ty, h2, stripRep _ _ h3 hcl⟩
      F1 := hR.F0
      F2 := fun b c hF => by
        rcases hR.new b c hF with h1 | h1 | ⟨p, h1, h2⟩
        · exact .inl h1
        · exact .inr h1
        · exact .inl (by rw [h2]; exact (hbox p h1).2.2 c)
      F3 := hR.lt
      new := fun cs hcs => by
        rcases hnbc with ⟨_, h1⟩ | ⟨c0, h0, h1, h2, h3, h4⟩
        · rw [h1] at hcs; cases hcs
        · rw [h2] at hcs
          obtain rfl := Option.some.inj hcs
          obtain ⟨k1, ⟨arr, ty, k2, k3⟩, k4, k5⟩ := hR.mem nb c0 h1
          refine ⟨h3, ?_, k5, arr, ty, k2, stripRep _ _ k3 h3⟩
          rcases k4 with k4 | ⟨p, k4, k6⟩
          · exact k4
          · exfalso
            have hc : ∃ c1, s.fs.mem p.1 = some c1 := by
              obtain ⟨j, hj⟩ := List.getElem?_of_mem k4
              have hk : (mem.map (·.1))[j]? = some p.1 := by rw [List.getElem?_map, hj]; rfl
              have hlt : j < ms.length := by rw [hmget.1]; exact (List.getElem?_eq_some_iff.1 hk).1
              obtain ⟨c1, h5, _⟩ := hmget.2 j p.1 _ hk (List.getElem?_eq_getElem hlt)
              exact ⟨c1, h5⟩
            obtain ⟨c1, h5⟩ := hc
            have := hR.inj nb p.1 c0 c1 h1 h5 (by rw [hpβ p k4]; exact k6)
            exact h4 (List.mem_map.2 ⟨p, k4, this.symm⟩)
      tk := fun t v ht => by obtain ⟨t', _, _, _, g4, g5⟩ := tkOf_lk hex ht; exact ⟨g4, g5⟩
      tok := fun k v blk hi top hk hτ => by
        obtain ⟨t, g1, g2, g3, _⟩ := tkOf_lk hex hk
        obtain ⟨x, g5, g6⟩ := lk_find t k g1
        rw [τex_eq g5, g6] at hτ
        obtain ⟨k1, k2, k3, k4⟩ := hR.tok t v blk hi top g2 hτ
        refine ⟨k1, k2, k3, fun hs => ?_⟩
        rcases hnbc with ⟨_, h1⟩ | ⟨c0, h0, h1, _⟩
        · simp only at hs; rw [h1] at hs; cases hs
        · exact k4 nb c0 h1
      tin := fun k k' v v' blk hi top hi' top' hk hk' hτ hτ' => by
        obtain ⟨t, g1, g2, g3, _⟩ := tkOf_lk hex hk
        obtain ⟨t', g1', g2', g3', _⟩ := tkOf_lk hex hk'
        obtain ⟨x, g5, g6⟩ := lk_find t k g1
        obtain ⟨x', g5', g6'⟩ := lk_find t' k' g1'
        rw [τex_eq g5, g6] at hτ
        rw [τex_eq g5', g6'] at hτ'
        have := hR.tin t t' v v' blk hi top hi' top' g2 g2' hτ hτ'
        subst this
        rw [g1] at g1'
        exact Option.some.inj g1'
      res := by
        have hvl' : vs.toArray.size = ps.length := by simp [hvl]
        cases ps with
        | nil =>
          simp only [List.length_nil] at hvl hvl'
          have : vs = [] := List.eq_nil_of_length_eq_zero hvl.symm
          subst this
          exact ⟨#[], rfl, rfl, fun j x u hx => by simp at hx⟩
        | cons p r =>
          cases r with
          | nil =>
            obtain ⟨u, rfl⟩ := List.length_eq_one_iff.1 (show vs.length = 1 by simpa using hvl.symm)
            exact resRep p u (by simp) (hvr 0 p u rfl rfl)
          | cons q r =>
            have h1 : ¬ (vs.toArray.size = 1) := by rw [hvl']; simp
            rw [dif_neg h1]
            refine ⟨vs.toArray, rfl, by simp [← hvl], fun j x u hx hu => ?_⟩
            rw [List.getElem?_map] at hx
            cases hq : (p :: q :: r)[j]? with
            | none => rw [hq] at hx; cases hx
            | some y =>
              rw [hq] at hx
              obtain rfl := Option.some.inj hx
              exact resRep y u (List.mem_of_getElem? hq) (hvr j y u hq (by simpa using hu)) }
  refine calls_of_wp hf hb ?_
  refine vc_sound hT hm (mem.map (·.1)) (fun k hk => hk) code _ _ (st0 mem args) C _ w hok (fun e s C' a' w' hs hr => ?_) h hRel
  cases e with
  | normal =>
    obtain ⟨h1, v, h2, h3⟩ := key s C' a' w' hs.out hr
    exact ⟨h1, v, h2, h3⟩
  | exit id => exact hs.elim
  | ret =>
    obtain ⟨h1, v, h2, h3⟩ := key s C' a' w' hs.out hr
    exact ⟨h1, v, h2, h3⟩
theorem ren0 {cs : List AV} (h : cs.all stA = true) : cs.map (renA [] 0) = stripV cs := by
  refine List.map_congr_left fun x hx => ?_
  have := List.all_eq_true.1 h x hx
  cases x with
  | ptr b o => simp [stA] at this
  | nl e es => simp [stA] at this
  | _ => rfl
theorem stA_res {cs : List AV} (h : cs.all stA = true) : cs.all (resA [] 0) = true := by
  refine List.all_eq_true.2 fun x hx => ?_
  have := List.all_eq_true.1 h x hx
  cases x with
  | ptr b o => simp [stA] at this
  | row b n e => simp [stA] at this
  | _ => rfl
theorem ret1 {rs : List ResultVar} {R : Out → Prop} {s : St} {p : PV} (h : resVs T s rs = some [p]) (hr : p.2.all stA = true) (hR : R { res := .pv (p.1, stripV p.2) }) : Hold (atRet T rs [] R s) := by
  refine ⟨.inl ?_⟩
  unfold atRetG
  rw [h]
  refine ⟨[], 0, rfl, by simp [stA_res hr], ?_⟩
  have h2 : renP [] 0 p = (p.1, stripV p.2) := by unfold renP; rw [ren0 hr]
  show R { tk := [], mem := [], nb := none, res := .pv (renP [] 0 p) } |> fun x => _ ∧ x
  exact ⟨rfl, by rw [h2]; exact hR⟩
/-- The like, where what is new is told as new. -/
theorem ret1N {rs : List ResultVar} {R : Out → Prop} {s : St} {p : PV} (h : resVs T s rs = some [p]) (hr : p.2.all (resA [] 0) = true) (hR : R { res := .pv (p.1, p.2.map (renA [] 0)) }) : Hold (atRet T rs [] R s) := by
  refine ⟨.inl ?_⟩
  unfold atRetG
  rw [h]
  refine ⟨[], 0, rfl, by simp [hr], ?_⟩
  show R { tk := [], mem := [], nb := none, res := .pv (renP [] 0 p) } |> fun x => _ ∧ x
  exact ⟨rfl, hR⟩
theorem retRow {rs : List ResultVar} {ks : List Nat} {R : Out → Prop} {s : St} {b n : Nat} {e : TypeId} {cs : List AV} {ms : List (List AV)} (h : resVs T s rs = some [(false, [.row b n e])]) (hb : mem? ks b = false)
    (hm : s.fs.mem b = some cs) (hms : memOf s.fs.mem ks = some ms) (hmc : (ms.all fun cs => cs.all AV.clean) = true) (hok : (ti T e).ok = true) (hl : cs.length = n * (ti T e).sz) (hcl : ∀ x ∈ stripV cs, x.clean = true)
    (hR : R { mem := ms, res := .pv (false, [.lst 0 0 e (chunks (ti T e).sz n (stripV cs))]) }) : Hold (atRet T rs ks R s) :=
  ⟨.inr ⟨b, n, e, cs, ms, false, h, hb, hm, hcl, hl, hok, hms, hmc, fun h => (by cases h), hR⟩⟩
theorem newA_clean {x : AV} (h : newA T x = true) : x.strip.clean = true := by cases x <;> first | rfl | (cases h)
theorem retRowN {rs : List ResultVar} {ks : List Nat} {R : Out → Prop} {s : St} {b n : Nat} {e : TypeId} {cs : List AV} {ms : List (List AV)} (h : resVs T s rs = some [(false, [.row b n e])]) (hb : mem? ks b = false)
    (hm : s.fs.mem b = some cs) (hms : memOf s.fs.mem ks = some ms) (hmc : (ms.all fun cs => cs.all AV.clean) = true) (hok : (ti T e).ok = true) (hl : cs.length = n * (ti T e).sz) (hnw : ∀ x ∈ cs, newA T x = true)
    (hR : R { mem := ms, res := .pv (false, [.nl e (chunks (ti T e).sz n (stripV cs))]) }) : Hold (atRet T rs ks R s) :=
  ⟨.inr ⟨b, n, e, cs, ms, true, h, hb, hm, fun x hx => by obtain ⟨y, hy, rfl⟩ := List.mem_map.1 hx; exact newA_clean (hnw y hy), hl, hok, hms, hmc, fun _ => hnw, hR⟩⟩
end
end Go.Proofs.Ytpeejmolbmhjjaa.Sx
