/- What a function's body comes to over plain values, and that the machine does so: regions in order, branches, loops; there is no condition beyond those each statement names. -/
import Derived.Test.YtpeejmolbmhjjaaNSy13
namespace Go.Proofs.Ytpeejmolbmhjjaa.Sx
set_option linter.unusedSimpArgs false
set_option linter.unusedVariables false
open Go
/-- The state, as lists. -/
structure St where
  env : List (Nat × TV)
  mem : List (Nat × List AV)
  cur : List (Nat × Nat)
  ub : List Nat
  ut : List Nat
def St.fs (s : St) : FS where
  env := fun k => match lk s.env k with | some v => v | none => .no
  mem := fun k => lk s.mem k
  cur := fun k => lk s.cur k
  ub := fun k => s.ub.any fun j => Nat.beq k j
  ut := fun k => s.ut.any fun j => Nat.beq k j
def St.app (s : St) (dst : Option Tmp) (d : Dl) : St where
  env := match dst with | none => s.env | some j => (j, d.v) :: s.env
  mem := d.mm ++ s.mem
  cur := d.cu ++ s.cur
  ub := d.nb ++ s.ub
  ut := d.cu.map (·.1) ++ s.ut
def St.setB (s : St) (t : Nat) (x : Bool) : St := { s with env := (t, .pv (false, [.b x])) :: s.env }
theorem beq_comm (a b : Nat) : Nat.beq a b = Nat.beq b a := by rw [Bool.eq_iff_iff, Nat.beq_eq, Nat.beq_eq]; exact eq_comm
theorem St.fs_app (s : St) (dst : Option Tmp) (d : Dl) : (s.app dst d).fs = s.fs.app dst d := by
  unfold St.fs St.app FS.app
  congr 1
  · cases dst with
    | none => rfl
    | some j =>
      funext k
      simp only [lk, beq_comm k j]
      cases Nat.beq j k <;> rfl
  · funext k; rw [lk_append]; cases lk d.mm k <;> rfl
  · funext k; rw [lk_append]; cases lk d.cu k <;> rfl
  · funext k; rw [List.any_append]
  · funext k; rw [List.any_append, List.any_map]; rfl
theorem St.fs_setB (s : St) (t : Nat) (x : Bool) (h : s.fs.env t = .pv (false, [.b x])) : (s.setB t x).fs = s.fs := by
  unfold St.setB St.fs
  congr 1
  funext k
  simp only [lk]
  cases hb : Nat.beq t k with
  | true => rw [← Nat.eq_of_beq_eq_true hb]; exact h.symm
  | false => rfl
/-- What follows is told of values that are told out: so that what was read once is not read again. -/
def forceA (x : AV) (K : AV → Prop) : Prop := match x with
  | .nul => K .nul
  | .b x => K (.b x)
  | .i k n => K (.i k n)
  | .s x => K (.s x)
  | .lst t v e es => K (.lst t v e es)
  | .ptr b o => K (.ptr b o)
  | .eptr cs => K (.eptr cs)
  | .row b n e => K (.row b n e)
  | .nilp => K .nilp
  | .fn g => K (.fn g)
  | .nl e es => K (.nl e es)
def forceL : List AV → (List AV → Prop) → Prop
  | [], K => K []
  | x :: xs, K => forceA x fun x => forceL xs fun l => K (x :: l)
def forceX : List PV → (List PV → Prop) → Prop
  | [], K => K []
  | (b, cs) :: xs, K => forceL cs fun cs => forceX xs fun l => K ((b, cs) :: l)
def forceT (x : TV) (K : TV → Prop) : Prop := match x with
  | .pv (b, cs) => forceL cs fun cs => K (.pv (b, cs))
  | .tup xs => forceX xs fun xs => K (.tup xs)
  | .no => K .no
def forceM : List (Nat × List AV) → (List (Nat × List AV) → Prop) → Prop
  | [], K => K []
  | (b, cs) :: xs, K => forceL cs fun cs => forceM xs fun l => K ((b, cs) :: l)
def forceD (d : Dl) (K : Dl → Prop) : Prop := match d with | ⟨v, mm, nb, cu⟩ => forceT v fun v => forceM mm fun mm => K ⟨v, mm, nb, cu⟩
theorem forceA_eq (x : AV) (K : AV → Prop) : forceA x K = K x := by cases x <;> rfl
theorem forceL_eq : ∀ (l : List AV) (K : List AV → Prop), forceL l K = K l
  | [], _ => rfl
  | x :: xs, K => by simp only [forceL, forceA_eq, forceL_eq xs]
theorem forceX_eq : ∀ (l : List PV) (K : List PV → Prop), forceX l K = K l
  | [], _ => rfl
  | (b, cs) :: xs, K => by simp only [forceX, forceL_eq, forceX_eq xs]
theorem forceM_eq : ∀ (l : List (Nat × List AV)) (K : List (Nat × List AV) → Prop), forceM l K = K l
  | [], _ => rfl
  | (b, cs) :: xs, K => by simp only [forceM, forceL_eq, forceM_eq xs]
theorem forceT_eq (x : TV) (K : TV → Prop) : forceT x K = K x := by
  cases x with
  | pv p => obtain ⟨b, cs⟩ := p; simp only [forceT, forceL_eq]
  | tup xs => simp only [forceT, forceX_eq]
  | no => rfl
theorem forceD_eq (d : Dl) (K : Dl → Prop) : forceD d K = K d := by obtain ⟨v, mm, nb, cu⟩ := d; simp only [forceD, forceT_eq, forceM_eq]
def appK {α : Type} : List α → List α → (List α → Prop) → Prop
  | [], r, K => K r
  | x :: l, r, K => appK l r fun t => K (x :: t)
theorem appK_eq {α : Type} : ∀ (l r : List α) (K : List α → Prop), appK l r K = K (l ++ r)
  | [], r, K => rfl
  | x :: l, r, K => by simp only [appK, appK_eq l r, List.cons_append]
def appS (s : St) (dst : Option Tmp) (d : Dl) (K : St → Prop) : Prop := match s, d with
  | ⟨env, mem, cur, ub, ut⟩, ⟨v, mm, nb, cu⟩ => appK mm mem fun mem => appK cu cur fun cur => appK nb ub fun ub => appK (cu.map (·.1)) ut fun ut => match dst with
    | none => K ⟨env, mem, cur, ub, ut⟩
    | some j => K ⟨(j, v) :: env, mem, cur, ub, ut⟩
theorem appS_eq (s : St) (dst : Option Tmp) (d : Dl) (K : St → Prop) : appS s dst d K = K (s.app dst d) := by
  obtain ⟨env, mem, cur, ub, ut⟩ := s
  obtain ⟨v, mm, nb, cu⟩ := d
  simp only [appS, appK_eq, St.app]
  cases dst <;> rfl
def setK (s : St) (t : Nat) (x : Bool) (K : St → Prop) : Prop := match s with | ⟨env, mem, cur, ub, ut⟩ => K ⟨(t, .pv (false, [.b x])) :: env, mem, cur, ub, ut⟩
theorem setK_eq (s : St) (t : Nat) (x : Bool) (K : St → Prop) : setK s t x K = K (s.setB t x) := by cases s; rfl
/-- A guard's slot: a Bool, or nothing (its operation was passed over). -/
def guardK (x : TV) (KB : Bool → Prop) (KS : Prop) : Prop := match x with | .pv (false, [.b b]) => KB b | .tup [] => KS | _ => False
theorem guardK_inv {x : TV} {KB : Bool → Prop} {KS : Prop} (h : guardK x KB KS) : (∃ b, x = .pv (false, [.b b]) ∧ KB b) ∨ (x = .tup [] ∧ KS) := by
  unfold guardK at h; split at h
  · exact .inl ⟨_, rfl, h⟩
  · exact .inr ⟨rfl, h⟩
  · exact h.elim
/-- The operations of a region, one by one; each with the boxes that it may touch. 'all': the region's, for the guards. -/
def vcOps (P : Program) (T : TT) (all : List Oper) : List (Oper × (Nat → Bool)) → St → (St → Prop) → Prop
  | [], s, K => K s
  | (o, ok) :: r, s, K => match o.guard with
    | none => evOp P T s.fs ok o fun d => forceD d fun d => appS s o.dst d fun s => vcOps P T all r s K
    | some (j, want) => match (all[j]?).bind (·.dst) with
      | none => False
      | some t => guardK (s.fs.env t) (fun b => match b with
        | true => setK s t true fun s => match want with
          | true => evOp P T s.fs ok o fun d => forceD d fun d => appS s o.dst d fun s => vcOps P T all r s K
          | false => appS s o.dst { v := .tup [] } fun s => vcOps P T all r s K
        | false => setK s t false fun s => match want with
          | true => appS s o.dst { v := .tup [] } fun s => vcOps P T all r s K
          | false => evOp P T s.fs ok o fun d => forceD d fun d => appS s o.dst d fun s => vcOps P T all r s K) (appS s o.dst { v := .tup [] } fun s => vcOps P T all r s K)
def opsOk (n : Nat) (ops : List Oper) : Bool := ops.all fun o => match o.dst with | some d => Nat.blt d n | none => true
section
variable {P : Program} {T : TT} {G : Gd} {C : Cx} {a : Act} {w : World}
theorem getD_bool {a : Act} {t : Nat} {b : Bool} (h : a.tmps.getD t undef = .bool b) : a.tmps[t]? = some (.bool b) := by
  cases hq : a.tmps[t]? with
  | none => simp [hq, undef] at h
  | some v => simp [hq] at h; rw [h]
/-- Is the operation wanted? -/
theorem wanted_none {o : Oper} {ops : Array Oper} {tmps : Array Value} (h : o.guard = none) : Region.wanted o (yielded ops tmps) = true := by simp [Region.wanted, h]
theorem wanted_some {f : FS} {o : Oper} {ops : Array Oper} {j t : Nat} {want b : Bool} (h : Rel P G f C a w) (hg : o.guard = some (j, want)) (ht : (ops.toList[j]?).bind (·.dst) = some t) (hb : f.env t = .pv (false, [.b b])) :
    Region.wanted o (yielded ops a.tmps) = (b == want) := by
  have hv := h.env t
  rw [hb] at hv
  have hv := getD_bool (inv_b hv)
  have ht' : (ops[j]?).bind (·.dst) = some t := by rw [← Array.getElem?_toList]; exact ht
  unfold Region.wanted yielded
  simp only [hg, ht', Option.bind_some, hv]
  cases b <;> cases want <;> rfl
theorem wanted_void {f : FS} {o : Oper} {ops : Array Oper} {j t : Nat} {want : Bool} (h : Rel P G f C a w) (hg : o.guard = some (j, want)) (ht : (ops.toList[j]?).bind (·.dst) = some t) (hb : f.env t = .tup []) :
    Region.wanted o (yielded ops a.tmps) = false := by
  have hv := h.env t
  rw [hb] at hv
  obtain ⟨arr, hv, hl, _⟩ := hv
  have ht' : (ops[j]?).bind (·.dst) = some t := by rw [← Array.getElem?_toList]; exact ht
  unfold Region.wanted yielded
  simp only [hg, ht', Option.bind_some]
  cases hq : a.tmps[t]? with
  | none => rfl
  | some v =>
    have : v = .tuple arr := by simpa [hq] using hv
    rw [this]; rfl
theorem repVoid {R : AV → Value → Prop} : RepT R (.tup []) undef := ⟨#[], rfl, rfl, fun j x u hx => by simp at hx⟩
theorem vcOps_sound (hT : TabOk P T) (ops : Array Oper) (Q : Exit → Act → World → Prop) (K : St → Prop) (hQ : ∀ s C a w, K s → Rel P G s.fs C a w → Q .normal a w) :
    ∀ (l : List (Oper × (Nat → Bool))) (s : St) (C : Cx) (a : Act) (w : World), opsOk G.n (l.map (·.1)) = true → vcOps P T ops.toList l s K → Rel P G s.fs C a w → wpList P ops Q (l.map (·.1)) a w
  | [], s, C, a, w, _, hK, h => hQ s C a w hK h
  | (o, ok) :: r, s, C, a, w, hn, hK, h => by
    simp only [opsOk, List.map_cons, List.all_cons, Bool.and_eq_true] at hn
    have hd : ∀ d, o.dst = some d → d < G.n := fun d hd => by
      have h1 := hn.1
      rw [hd] at h1
      exact Nat.lt_of_succ_le (Nat.le_of_ble_eq_true h1)
    have ih := vcOps_sound hT ops Q K hQ r
    have run : ∀ s' : St, Rel P G s'.fs C a w → evOp P T s'.fs ok o (fun d => vcOps P T ops.toList r (s'.app o.dst d) K) → o.wp P a w (wpList P ops Q (r.map (·.1))) Q := fun s' hs hK => by
      refine Oper.wp_mono ?_ (ev_sound (Q := Q) hT hs hd hK)
      rintro a' w' ⟨d, C', hKd, hR⟩
      rw [← St.fs_app] at hR
      exact ih _ C' a' w' hn.2 hKd hR
    have skip : ∀ s' : St, Rel P G s'.fs C a w → vcOps P T ops.toList r (s'.app o.dst { v := .tup [] }) K → wpList P ops Q (r.map (·.1)) (a.put o.dst undef) w := fun s' hs hK => by
      refine ih _ C _ w hn.2 hK ?_
      rw [St.fs_app, app_val]
      exact hs.put o.dst hd _ _ repVoid
    unfold vcOps at hK
    simp only [forceD_eq, appS_eq, setK_eq] at hK
    show wpList P ops Q (o :: r.map (·.1)) a w
    unfold wpList
    split at hK
    · rename_i hg
      rw [if_pos (wanted_none hg)]
      exact .inl (run s h hK)
    · rename_i j want hg
      split at hK
      · exact hK.elim
      · rename_i t ht
        rcases guardK_inv hK with ⟨b, hb, hK⟩ | ⟨hb, hK⟩
        case inr =>
          rw [if_neg (by rw [wanted_void (ops := ops) h hg ht hb]; decide)]
          exact skip s h hK
        have hw := wanted_some (ops := ops) h hg ht hb
        cases b with
        | true =>
          have hs : Rel P G (s.setB t true).fs C a w := by rw [St.fs_setB s t true hb]; exact h
          cases want with
          | true => rw [if_pos (by rw [hw]; rfl)]; exact .inl (run _ hs hK)
          | false => rw [if_neg (by rw [hw]; decide)]; exact skip _ hs hK
        | false =>
          have hs : Rel P G (s.setB t false).fs C a w := by rw [St.fs_setB s t false hb]; exact h
          cases want with
          | true => rw [if_neg (by rw [hw]; decide)]; exact skip _ hs hK
          | false => rw [if_pos (by rw [hw]; rfl)]; exact .inl (run _ hs hK)
end
inductive Ex where
  | normal
  | exit (id : Nat)
  | ret
/-- What a slot knew, told as the pattern tells it: a lineage that the pattern does not name is dropped. -/
def alignA (x y : AV) : AV := match y with | .lst 0 _ _ _ => x.strip | _ => x
def alignL : List AV → List AV → List AV
  | x :: xs, y :: ys => alignA x y :: alignL xs ys
  | xs, _ => xs
def alignT : TV → TV → TV
  | .pv x, .pv y => .pv (x.1, alignL x.2 y.2)
  | x, _ => x
def envLe (e : Nat → TV) : List (Nat × TV) → Prop
  | [] => True
  | (k, v) :: r => alignT (e k) v = v ∧ envLe e r
def memLe (m : Nat → Option (List AV)) : List (Nat × List AV) → Prop
  | [] => True
  | (k, cs) :: r => (match m k with | some cs' => alignL cs' cs = cs | none => False) ∧ memLe m r
def curLe (c : Nat → Option Nat) : List (Nat × Nat) → Prop
  | [] => True
  | (k, v) :: r => (match c k with | some v' => v' = v | none => False) ∧ curLe c r
def AV.boxOf : AV → Option Nat
  | .ptr bx _ | .row bx _ _ => some bx
  | _ => none
def patA (ub ut : List Nat) : AV → Bool
  | .ptr b _ | .row b _ _ => ub.any fun j => Nat.beq b j
  | .lst t _ _ _ => Nat.beq t 0 || ut.any fun j => Nat.beq t j
  | _ => true
def patT (ub ut : List Nat) : TV → Bool
  | .pv x => x.2.all (patA ub ut)
  | .tup xs => xs.all fun x => x.2.all (patA ub ut)
  | .no => true
/-- Is the pattern whole: every box and every lineage that it names is among those that are in use. -/
def St.pat (ks : List Nat) (s : St) : Bool :=
  s.env.all (fun x => patT s.ub s.ut x.2) && s.mem.all (fun x => x.2.all (patA s.ub s.ut) && s.ub.any fun j => Nat.beq x.1 j) && s.cur.all (fun x => s.ut.any fun j => Nat.beq x.1 j) &&
  (match lk s.cur 1 with | some 0 => true | _ => false) && (match lk s.cur 0 with | none => true | _ => false) && (ks.all fun k => s.ub.any fun j => Nat.beq k j) && !(s.ub.any fun j => Nat.beq K0 j)
/-- The state knows all that the pattern tells. -/
def St.le (s p : St) : Prop := envLe s.fs.env p.env ∧ memLe s.fs.mem p.mem ∧ curLe s.fs.cur p.cur
section
variable {P : Program} {T : TT} {G : Gd} {C : Cx} {a : Act} {w : World}
theorem anyB {l : List Nat} {k : Nat} (h : l.any (fun j => Nat.beq k j) = true) : k ∈ l := by
  obtain ⟨j, hj, hb⟩ := List.any_eq_true.1 h
  rw [Nat.eq_of_beq_eq_true hb]; exact hj
theorem align_repA {f f' : FS} {x y : AV} {v : Value} (h : RepA P C f w x v) (he : alignA x y = y) (hp : ∀ b, y.boxOf = some b → f'.ub b = true) (ht : ∀ t vv e es, y = .lst t vv e es → t = 0 ∨ f'.ut t = true)
    (hc : ∀ t c, f'.cur t = some c → f.cur t = some c) : RepA P C f' w y v := by
  have h1 : Rep P C.F C.β f.ub w y v := by
    rw [← he]; unfold alignA
    split
    · exact h.1.strip
    · exact h.1
  refine ⟨?_, ?_⟩
  · cases hy : y with
    | ptr b o => rw [hy] at h1; cases h1 with | ptr _ _ _ => exact .ptr b o (hp b (by rw [hy]; rfl))
    | row b n e => rw [hy] at h1; cases h1 with | row _ _ _ _ => exact .row b n e (hp b (by rw [hy]; rfl))
    | nl e es => rw [hy] at h1; exact h1.cleanN (Nat.le_refl _) rfl
    | _ => rw [hy] at h1; exact h1.cleanly' rfl
  · cases hy : y with
    | lst t vv e es =>
      unfold Tip
      cases v with
      | slice ad len cap =>
        rcases ht t vv e es hy with rfl | hut
        · exact .inl rfl
        · by_cases h0 : t = 0
          · exact .inl h0
          · refine .inr ⟨hut, fun c hcur => ?_⟩
            have hx : x = y := by
              rw [hy] at he ⊢
              unfold alignA at he
              cases t with
              | zero => exact absurd rfl h0
              | succ t => exact he
            have h2 := h.2
            rw [hx, hy] at h2
            rcases h2 with h2 | ⟨_, h2⟩
            · exact absurd h2 h0
            · exact h2 c (hc t c hcur)
      | _ => trivial
    | _ => trivial
theorem align_repL {f f' : FS} : ∀ {xs ys : List AV} {vs : List Value}, RepL (RepA P C f w) xs vs → alignL xs ys = ys → (∀ y ∈ ys, (∀ b, y.boxOf = some b → f'.ub b = true) ∧ ∀ t vv e es, y = .lst t vv e es → t = 0 ∨ f'.ut t = true) →
    (∀ t c, f'.cur t = some c → f.cur t = some c) → RepL (RepA P C f' w) ys vs
  | [], [], vs, hl, _, _, _ => by
    have : vs = [] := List.eq_nil_of_length_eq_zero (by simpa using hl.1.symm)
    subst this; exact .nil
  | [], y :: ys, vs, hl, he, _, _ => by simp [alignL] at he
  | x :: xs, [], vs, hl, he, _, _ => by simp [alignL] at he
  | x :: xs, y :: ys, vs, hl, he, hp, hc => by
    simp only [alignL, List.cons.injEq] at he
    obtain ⟨u, us, rfl, h1, h2⟩ := hl.cons_inv
    exact .cons (align_repA h1 he.1 (hp y (by simp)).1 (hp y (by simp)).2 hc) (align_repL h2 he.2 (fun z hz => hp z (by simp [hz])) hc)
theorem envLe_lk {e : Nat → TV} : ∀ {l : List (Nat × TV)}, envLe e l → ∀ {k v}, lk l k = some v → alignT (e k) v = v
  | [], _, k, v, h => by cases h
  | (j, u) :: r, hl, k, v, h => by
    simp only [lk, cond_eq_ite] at h
    split at h
    · rename_i hb
      obtain rfl := Option.some.inj h
      rw [← Nat.eq_of_beq_eq_true hb]; exact hl.1
    · exact envLe_lk hl.2 h
theorem memLe_lk {m : Nat → Option (List AV)} : ∀ {l : List (Nat × List AV)}, memLe m l → ∀ {k cs}, lk l k = some cs → ∃ cs', m k = some cs' ∧ alignL cs' cs = cs
  | [], _, k, v, h => by cases h
  | (j, u) :: r, hl, k, v, h => by
    simp only [lk, cond_eq_ite] at h
    split at h
    · rename_i hb
      obtain rfl := Option.some.inj h
      rw [← Nat.eq_of_beq_eq_true hb]
      have h1 := hl.1
      split at h1
      · rename_i cs' hcs; exact ⟨cs', hcs, h1⟩
      · exact h1.elim
    · exact memLe_lk hl.2 h
theorem curLe_lk {c : Nat → Option Nat} : ∀ {l : List (Nat × Nat)}, curLe c l → ∀ {k v}, lk l k = some v → c k = some v
  | [], _, k, v, h => by cases h
  | (j, u) :: r, hl, k, v, h => by
    simp only [lk, cond_eq_ite] at h
    split at h
    · rename_i hb
      obtain rfl := Option.some.inj h
      rw [← Nat.eq_of_beq_eq_true hb]
      have h1 := hl.1
      split at h1
      · rename_i v' hv; rw [hv, h1]
      · exact h1.elim
    · exact curLe_lk hl.2 h
/-- What is known of the state is known of the pattern. -/
theorem Rel.weak {s p : St} {ks : List Nat} (h : Rel P G s.fs C a w) (hle : s.le p) (hp : p.pat ks = true) (hk : ∀ k, G.pk k → k ∈ ks) : Rel P G p.fs C a w := by
  simp only [St.pat, Bool.and_eq_true] at hp
  obtain ⟨⟨⟨⟨⟨⟨p1, p2⟩, p3⟩, p4⟩, p5⟩, p6⟩, p7⟩ := hp
  have p1 := List.all_eq_true.1 p1
  have p2 := List.all_eq_true.1 p2
  have p3 := List.all_eq_true.1 p3
  have p6 := List.all_eq_true.1 p6
  obtain ⟨l1, l2, l3⟩ := hle
  have hc : ∀ t c, p.fs.cur t = some c → s.fs.cur t = some c := fun t c hc => curLe_lk l3 hc
  have pA : ∀ y, patA p.ub p.ut y = true → (∀ b, y.boxOf = some b → p.fs.ub b = true) ∧ ∀ t vv e es, y = .lst t vv e es → t = 0 ∨ p.fs.ut t = true := fun y hy => by
    refine ⟨fun b e => ?_, fun t vv e es he => ?_⟩
    · cases y <;> simp only [AV.boxOf, Option.some.injEq, reduceCtorEq] at e <;> (subst e; exact hy)
    · subst he
      simp only [patA, Bool.or_eq_true] at hy
      exact hy.imp Nat.eq_of_beq_eq_true id
  have memOld : ∀ b cs, p.fs.mem b = some cs → ∃ cs', s.fs.mem b = some cs' ∧ alignL cs' cs = cs := fun b cs hb => memLe_lk l2 hb
  exact { h with
    ubK := by
      cases hq : p.ub.any (fun j => Nat.beq K0 j) with
      | false => exact hq
      | true => rw [hq] at p7; cases p7
    env := fun k => by
      show RepT (RepA P C p.fs w) (match lk p.env k with | some v => v | none => .no) _
      cases hq : lk p.env k with
      | none => trivial
      | some v =>
        have h1 := envLe_lk l1 hq
        have h2 := h.env k
        have h3 := p1 _ (lk_mem hq)
        cases v with
        | no => trivial
        | pv y =>
          cases hs : s.fs.env k with
          | pv x =>
            rw [hs] at h1 h2
            simp only [alignT, TV.pv.injEq] at h1
            have hy : y.1 = x.1 ∧ alignL x.2 y.2 = y.2 := by
              have e1 := congrArg Prod.fst h1; have e2 := congrArg Prod.snd h1
              exact ⟨e1.symm, e2⟩
            have h3' := List.all_eq_true.1 h3
            exact ⟨align_repL h2.1 hy.2 (fun z hz => pA z (h3' z hz)) hc, fun e => h2.2.1 (by rw [← hy.1]; exact e), fun e => h2.2.2 (by rw [← hy.1]; exact e)⟩
          | tup xs => rw [hs] at h1; cases h1
          | no => rw [hs] at h1; cases h1
        | tup ys =>
          cases hs : s.fs.env k with
          | pv x => rw [hs] at h1; cases h1
          | no => rw [hs] at h1; cases h1
          | tup xs =>
            rw [hs] at h1 h2
            injection h1 with h1
            subst h1
            obtain ⟨arr, g1, g2, g3⟩ := h2
            refine ⟨arr, g1, g2, fun j x u hx hu => ?_⟩
            have g4 := g3 j x u hx hu
            have h3' := List.all_eq_true.1 (List.all_eq_true.1 h3 x (List.mem_of_getElem? hx))
            refine ⟨⟨g4.1.1, fun i y z hy hz => ?_⟩, g4.2⟩
            have g5 := g4.1.2 i y z hy hz
            obtain ⟨q1, q2⟩ := pA y (h3' y (List.mem_of_getElem? hy))
            refine ⟨?_, ?_⟩
            · cases hyy : y with
              | ptr b o => rw [hyy] at g5; have g6 := g5.1; cases g6 with | ptr _ _ _ => exact .ptr b o (q1 b (by rw [hyy]; rfl))
              | row b n e => rw [hyy] at g5; have g6 := g5.1; cases g6 with | row _ _ _ _ => exact .row b n e (q1 b (by rw [hyy]; rfl))
              | nl e es => rw [hyy] at g5; exact g5.1.cleanN (Nat.le_refl _) rfl
              | _ => rw [hyy] at g5; exact g5.1.cleanly' rfl
            · cases hyy : y with
              | lst t vv e es =>
                unfold Tip
                cases z with
                | slice ad len cap =>
                  rcases q2 t vv e es hyy with rfl | hut
                  · exact .inl rfl
                  · have g6 := g5.2
                    rw [hyy] at g6
                    rcases g6 with g6 | ⟨_, g6⟩
                    · exact .inl g6
                    · exact .inr ⟨hut, fun c hcur => g6 c (hc t c hcur)⟩
                | _ => trivial
              | _ => trivial
    mem := fun b cs hb => by
      obtain ⟨cs', h1, h2⟩ := memOld b cs hb
      obtain ⟨k1, ⟨arr, ty, k2, k3⟩, k4⟩ := h.mem b cs' h1
      have h3 := p2 _ (lk_mem hb)
      simp only [Bool.and_eq_true] at h3
      have h3' := List.all_eq_true.1 h3.1
      exact ⟨h3.2, ⟨arr, ty, k2, align_repL k3 h2 (fun z hz => pA z (h3' z hz)) hc⟩, k4⟩
    inj := fun b b' cs cs' hb hb' he => by
      obtain ⟨c1, h1, _⟩ := memOld b cs hb
      obtain ⟨c2, h2, _⟩ := memOld b' cs' hb'
      exact h.inj b b' c1 c2 h1 h2 he
    tok := fun t v blk hi top hcur hτ => by
      obtain ⟨k1, k2, k3, k4⟩ := h.tok t v blk hi top (hc t v hcur) hτ
      exact ⟨k1, k2, k3, fun b cs hb => by obtain ⟨c1, h1, _⟩ := memOld b cs hb; exact k4 b c1 h1⟩
    tin := fun t t' v v' blk hi top hi' top' h1 h2 h3 h4 => h.tin t t' v v' blk hi top hi' top' (hc _ _ h1) (hc _ _ h2) h3 h4
    cut := fun t v hcur => p3 _ (lk_mem hcur)
    one := by
      have e1 : lk p.cur 1 = some 0 := by
        cases hq : lk p.cur 1 with
        | none => rw [hq] at p4; cases p4
        | some v => rw [hq] at p4; cases v with | zero => rfl | succ v => cases p4
      exact ⟨e1, h.one.2.1, p3 _ (lk_mem e1)⟩
    zro := by
      show lk p.cur 0 = none
      cases hq : lk p.cur 0 with
      | none => rfl
      | some v => rw [hq] at p5; cases p5
    pk := fun k hk' => ⟨(h.pk k hk').1, p6 k (hk k hk')⟩ }
end
end Go.Proofs.Ytpeejmolbmhjjaa.Sx
