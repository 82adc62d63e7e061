/- The machine does what the reading says: calls; there is no condition beyond those each statement names. -/
import Derived.Test.YtpeejmolbmhjjaaNSy11
namespace Go.Proofs.Ytpeejmolbmhjjaa.Sx
set_option linter.unusedSimpArgs false
set_option linter.unusedVariables false
open Go
section
variable {P : Program} {T : TT} {G : Gd} {f : FS} {C : Cx} {a : Act} {w w' : World} {o : Oper} {Q : Exit → Act → World → Prop} {K : Dl → Prop} {ok : Nat → Bool}
/-- What bears no pointer reads alike wherever the boxes are. -/
theorem Rep.cleanly {F : Nat → Nat → Prop} {β β' : Nat → Nat} {U U' : Nat → Bool} {x : AV} {v : Value} (h : Rep P F β U w x v) : x.clean = true → Rep P F β' U' w x v := by
  induction h with
  | nul v h => intro hc; cases hc
  | b x => intro _; exact .b x
  | i k n => intro _; exact .i k n
  | s x => intro _; exact .s x
  | nilp => intro _; exact .nilp
  | fn g => intro _; exact .fn g
  | ptr bx off h => intro hc; cases hc
  | row bx n e h => intro hc; cases hc
  | eptr cs blk off vals h1 h2 ih => intro hc; cases hc
  | nil t v e => intro _; exact .nil t v e
  | emp t v e a cap => intro _; exact .emp t v e a cap
  | lst t v e es blk off cap vals hcap hlen h1 h2 ih => intro _; exact .lst t v e es blk off cap vals hcap hlen h1 (fun j c xs x hx hy => ih j c xs x hx hy (h1 j c xs x hx hy).1)
  | nln e => intro hc; cases hc
  | nl e es blk cap vals hcap hlen h1 h2 h3 ih => intro hc; cases hc
def AV.cn : AV → Bool
  | .nl _ _ => true
  | x => x.clean
theorem AV.nu_cn {x : AV} (h : x.clean = true) : x.nu.cn = true := by cases x <;> first | rfl | exact h
/-- The like of what is new: it is new since any elder time. -/
theorem Rep.cleanN {F : Nat → Nat → Prop} {β β' : Nat → Nat} {U U' : Nat → Bool} {x : AV} {v : Value} (h : Rep P F β U w x v) (hβ : β' K0 ≤ β K0) : x.cn = true → Rep P F β' U' w x v := by
  induction h with
  | nul v h => intro hc; cases hc
  | b x => intro _; exact .b x
  | i k n => intro _; exact .i k n
  | s x => intro _; exact .s x
  | nilp => intro _; exact .nilp
  | fn g => intro _; exact .fn g
  | ptr bx off h => intro hc; cases hc
  | row bx n e h => intro hc; cases hc
  | eptr cs blk off vals h1 h2 ih => intro hc; cases hc
  | nil t v e => intro _; exact .nil t v e
  | emp t v e a cap => intro _; exact .emp t v e a cap
  | lst t v e es blk off cap vals hcap hlen h1 h2 ih => intro _; exact .lst t v e es blk off cap vals hcap hlen h1 (fun j c xs x hx hy => (h2 j c xs x hx hy).cleanly (h1 j c xs x hx hy).1)
  | nln e => intro _; exact .nln e
  | nl e es blk cap vals hcap hlen h1 h2 h3 ih => intro _; exact .nl e es blk cap vals hcap hlen h1 ⟨h2.1, Nat.le_trans hβ h2.2.1, h2.2.2⟩ (fun j c xs x hx hy => ih j c xs x hx hy (AV.nu_cn (h1 j c xs x hx hy).1))
/-- The like, of whatever is no pointer to a box itself. -/
def AV.far : AV → Bool
  | .ptr _ _ | .row _ _ _ | .nl _ _ => false
  | _ => true
theorem Rep.cleanly' {F : Nat → Nat → Prop} {β β' : Nat → Nat} {U U' : Nat → Bool} {x : AV} {v : Value} (h : Rep P F β U w x v) (hf : x.far = true) : Rep P F β' U' w x v := by
  cases h with
  | nul v h => exact .nul v h
  | b x => exact .b x
  | i k n => exact .i k n
  | s x => exact .s x
  | nilp => exact .nilp
  | fn g => exact .fn g
  | ptr bx off h => cases hf
  | row bx n e h => cases hf
  | eptr cs blk off vals h1 h2 => exact .eptr cs blk off vals h1 (fun c x hx => (h2 c x hx).cleanly (h1 c x hx).1)
  | nil t v e => exact .nil t v e
  | emp t v e a cap => exact .emp t v e a cap
  | lst t v e es blk off cap vals hcap hlen h1 h2 => exact .lst t v e es blk off cap vals hcap hlen h1 (fun j c xs x hx hy => (h2 j c xs x hx hy).cleanly (h1 j c xs x hx hy).1)
  | nln e => cases hf
  | nl e es blk cap vals hcap hlen h1 h2 h3 => cases hf
theorem lk_mem {α : Type} : ∀ {l : List (Nat × α)} {k : Nat} {v : α}, lk l k = some v → (k, v) ∈ l
  | [], _, _, h => by cases h
  | (j, u) :: r, k, v, h => by
    simp only [lk, cond_eq_ite] at h
    split at h
    · rename_i hb
      obtain rfl := Option.some.inj h
      rw [Nat.eq_of_beq_eq_true hb]; simp
    · exact List.mem_cons_of_mem _ (lk_mem h)
theorem lk_none {α : Type} : ∀ {l : List (Nat × α)} {k : Nat}, lk l k = none → ∀ v, (k, v) ∉ l
  | [], _, _, v => by simp
  | (j, u) :: r, k, h, v => by
    simp only [lk, cond_eq_ite] at h
    split at h
    · cases h
    · rename_i hb
      intro hm
      rcases List.mem_cons.1 hm with hm | hm
      · have : k = j := by injection hm
        subst this; simp at hb
      · exact lk_none h v hm
theorem lk_append {α : Type} : ∀ (l r : List (Nat × α)) (k : Nat), lk (l ++ r) k = match lk l k with | some v => some v | none => lk r k
  | [], r, k => rfl
  | (j, u) :: l, r, k => by
    simp only [List.cons_append, lk, cond_eq_ite]
    split
    · rfl
    · exact lk_append l r k
theorem lk_shift (m : Nat) : ∀ (l : List (Nat × Nat)) (t : Nat), lk (l.map fun x => (m + x.1, x.2)) (m + t) = lk l t
  | [], _ => rfl
  | (j, u) :: l, t => by
    simp only [List.map_cons, lk, cond_eq_ite]
    have : (Nat.beq (m + j) (m + t) = true) ↔ (Nat.beq j t = true) := by
      rw [Nat.beq_eq, Nat.beq_eq]; omega
    by_cases hj : Nat.beq j t = true
    · rw [if_pos hj, if_pos (this.2 hj)]
    · rw [if_neg hj, if_neg (fun h => hj (this.1 h)), lk_shift m l t]
theorem lk_any {α : Type} {l : List (Nat × α)} {k : Nat} : (l.any fun j => Nat.beq k j.1) = (lk l k).isSome := by
  induction l with
  | nil => rfl
  | cons p l ih =>
    obtain ⟨j, u⟩ := p
    simp only [List.any_cons, lk, cond_eq_ite, ih]
    have : Nat.beq k j = Nat.beq j k := by
      rw [Bool.eq_iff_iff, Nat.beq_eq, Nat.beq_eq]; exact eq_comm
    rw [this]
    split
    · rename_i h; rw [h]; rfl
    · rename_i h; rw [Bool.not_eq_true] at h; rw [h]; rfl
theorem RepT.shift {R R' : AV → Value → Prop} (d B : Nat) (h : ∀ a v, R a v → R' (shiftA d B a) v) {x : TV} {u : Value} (hl : RepT R x u) : RepT R' (shiftT d B x) u := by
  have hL : ∀ {cs : List AV} {vs : List Value}, RepL R cs vs → RepL R' (cs.map (shiftA d B)) vs := fun {cs vs} hl => ⟨by simp [hl.1], fun j x u hx hu => by
    rw [List.getElem?_map] at hx
    cases hq : cs[j]? with
    | none => rw [hq] at hx; cases hx
    | some y => rw [hq] at hx; obtain rfl := Option.some.inj hx; exact h _ _ (hl.2 j y u hq hu)⟩
  cases x with
  | pv x => exact ⟨hL hl.1, hl.2⟩
  | tup xs =>
    obtain ⟨arr, h1, h2, h3⟩ := hl
    refine ⟨arr, h1, by simp [h2], fun j x u hx hu => ?_⟩
    rw [List.getElem?_map] at hx
    cases hq : xs[j]? with
    | none => rw [hq] at hx; cases hx
    | some y => rw [hq] at hx; obtain rfl := Option.some.inj hx; exact ⟨hL (h3 j y u hq hu).1, (h3 j y u hq hu).2⟩
  | no => trivial
theorem evArgs_ok (h : Rel P G f C a w) : ∀ (l : List (Operand × TypeId)) (K : List PV → Prop), evArgs f.env T l K →
    ∃ ps : List PV, K ps ∧ ps.length = l.length ∧ ∀ (j : Nat) (p : PV) (x : Operand × TypeId), ps[j]? = some p → l[j]? = some x → RepP (Rep P C.F C.β f.ub w) p (a.eval x.1)
  | [], K, hK => ⟨[], hK, rfl, fun j p x hp => by simp at hp⟩
  | (x, t) :: r, K, hK => by
    unfold evArgs at hK
    split at hK
    · rename_i p hev
      have hx := evo_ok h (ti T t).el x
      rw [hev] at hx
      obtain ⟨ps, h1, h2, h3⟩ := evArgs_ok h r _ hK
      refine ⟨_, h1, by simp [h2], fun j q y hq hy => ?_⟩
      cases j with
      | zero =>
        simp at hq hy
        subst hq; subst hy
        exact ⟨strip_rep (F := C.F) (β := C.β) (U := f.ub) hx.1, hx.2⟩
      | succ j => exact h3 j q y (by simpa using hq) (by simpa using hy)
    · exact hK.elim
theorem memIs_ok : ∀ {m : List (Nat × List AV)}, memIs f.mem ok m → ∀ p ∈ m, ∃ cs', f.mem p.1 = some cs' ∧ stripV cs' = p.2
  | [], _, p, hp => by cases hp
  | (k, cs) :: r, h, p, hp => by
    rcases List.mem_cons.1 hp with rfl | hp
    · have h1 := h.1
      split at h1
      · rename_i cs' hcs; exact ⟨cs', hcs, h1.2⟩
      · exact h1.elim
    · exact memIs_ok h.2 p hp
theorem Rel.called (h : Rel P G f C a w) (d B : Nat) (hdK : d < K0) (hud : f.ub d = false) (hu0 : f.ub 0 = false) (hut : ∀ t, 2 ≤ t → t < 9 → f.ut (B + t) = false) (m : List (Nat × List AV)) (hm : memIs f.mem ok m)
    (out : Out) (F' : Nat → Nat → Prop) (bn : Nat) (τ : Nat → Option (Nat × Nat × Nat)) (v : Value) (hR : Ret P C.F C.β f.ub w m out F' bn τ v w') (dst : Option Tmp) (hd : ∀ d, dst = some d → d < G.n) :
    ∃ C', Rel P G (f.app dst (outDl d B m out)) C' (a.put dst v) w' := by
  have hmk := memIs_ok hm
  -- the state but for the slot
  let f' : FS := { f with mem := fun k => match lk (outDl d B m out).mm k with | some cs => some cs | none => f.mem k, cur := fun k => match lk (outDl d B m out).cu k with | some v => some v | none => f.cur k,
                          ub := fun k => (out.nb.isSome && Nat.beq k d) || f.ub k, ut := fun k => ((outDl d B m out).cu.any fun j => Nat.beq k j.1) || f.ut k }
  let C' : Cx := { F := F', β := fun k => if out.nb.isSome = true ∧ k = d then bn else C.β k, τ := fun t => if (lk (outDl d B m out).cu t).isSome = true then τ (t - B) else C.τ t }
  have happ : f.app dst (outDl d B m out) = f'.setE dst (shiftT d B out.res) := by
    have h1 := app_val f' dst (shiftT d B out.res)
    rw [← h1]
    unfold FS.app
    congr 1
    funext k
    show (((match out.nb with | some _ => [d] | none => ([] : List Nat)).any fun j => Nat.beq k j) || f.ub k) = (false || ((out.nb.isSome && Nat.beq k d) || f.ub k))
    cases out.nb <;> simp
  -- lineages
  have cu_old : ∀ t, f.ut t = true → lk (outDl d B m out).cu t = none := fun t ht => by
    cases hq : lk (outDl d B m out).cu t with
    | none => rfl
    | some v =>
      have := lk_mem hq
      obtain ⟨x, hx, he⟩ := List.mem_map.1 this
      have h1 : t = B + x.1 := by have := congrArg Prod.fst he; exact this.symm
      have hs : (lk out.tk x.1).isSome = true := by
        rw [← lk_shift (B) out.tk x.1, ← h1]; show (lk (outDl d B m out).cu t).isSome = true; rw [hq]; rfl
      obtain ⟨v2, hv2⟩ := Option.isSome_iff_exists.1 hs
      obtain ⟨g1, g2⟩ := hR.tk _ _ hv2
      rw [h1, hut _ g1 g2] at ht; cases ht
  have cu_new : ∀ t v, lk (outDl d B m out).cu t = some v → ∃ s, t = B + s ∧ lk out.tk s = some v ∧ 2 ≤ s ∧ s < 9 := fun t v hq => by
    have := lk_mem hq
    obtain ⟨x, hx, he⟩ := List.mem_map.1 this
    have h1 : t = B + x.1 := by have := congrArg Prod.fst he; exact this.symm
    have hs : lk out.tk x.1 = some v := by rw [← lk_shift (B) out.tk x.1, ← h1]; exact hq
    exact ⟨x.1, h1, hs, hR.tk _ _ hs⟩
  have heap_same : ∀ k, k < w.heap.size → (∀ c, C.F k c → False) ∨ True := fun _ _ => .inr trivial
  have cell_same : ∀ b c u, w.cell? ⟨b, c, none⟩ = some u → ¬ C.F b c → w'.cell? ⟨b, c, none⟩ = some u ∧ ¬ F' b c := fun b c u hc hF => by
    have hlt := cell_lt hc
    refine ⟨?_, fun hh => (hR.F2 b c hh).elim hF (fun h2 => by omega)⟩
    rw [World.cell?_of_block (w := w) (a := ⟨b, c, none⟩) (hR.block b hlt fun p hp e => ?_)]
    · exact hc
    · obtain ⟨cs', h1, _⟩ := hmk p hp
      exact hF (by rw [e]; exact (h.mem p.1 cs' h1).2.2.2 c)
  have keep : ∀ x u, RepA P C f w x u → RepA P C' f' w' x u := RepA.keep cell_same
    (fun b hb => ⟨by show ((out.nb.isSome && Nat.beq b d) || f.ub b) = true; rw [hb, Bool.or_true], by
      have hne : b ≠ d := fun e => by rw [e, hud] at hb; cases hb
      show (if out.nb.isSome = true ∧ b = d then bn else C.β b) = C.β b
      rw [if_neg (fun hh => hne hh.2)]⟩)
    (fun t ht => ⟨by show (_ || f.ut t) = true; rw [ht, Bool.or_true], fun c hc => by
      left
      have h1 := cu_old t ht
      have hc' : (match lk (outDl d B m out).cu t with | some v => some v | none => f.cur t) = some c := hc
      rw [h1] at hc'
      refine ⟨hc', ?_⟩
      show (if (lk (outDl d B m out).cu t).isSome = true then τ (t - B) else C.τ t) = C.τ t
      rw [h1]; rfl⟩) (if_neg (fun hh => Nat.ne_of_lt hdK hh.2.symm)) hR.pln
  have clean_rep : ∀ (cs : List AV) (vs : List Value), (∀ x ∈ cs, x.clean = true) → RepL (Rep P F' C.β f.ub w') cs vs → RepL (RepA P C' f' w') cs vs := fun cs vs hcl hr => ⟨hr.1, fun j x u hx hu => by
    have hc := hcl x (List.mem_of_getElem? hx)
    exact repA_clean hc ((hr.2 j x u hx hu).cleanly hc)⟩
  -- boxes
  have mm_inv : ∀ b cs, lk (outDl d B m out).mm b = some cs → (b = d ∧ out.nb = some cs) ∨ ∃ (j : Nat) (p : Nat × List AV), m[j]? = some p ∧ out.mem[j]? = some cs ∧ p.1 = b := fun b cs hb => by
    have := lk_mem hb
    rcases List.mem_append.1 this with h1 | h1
    · left
      split at h1
      · rename_i cs2 hnb
        simp at h1
        exact ⟨h1.1, by rw [hnb, h1.2]⟩
      · cases h1
    · right
      obtain ⟨x, hx, he⟩ := List.mem_map.1 h1
      obtain ⟨j, hj⟩ := List.getElem?_of_mem hx
      obtain ⟨g1, g2⟩ := List.getElem?_zip_eq_some.1 hj
      obtain ⟨rfl, rfl⟩ : x.1.1 = b ∧ x.2 = cs := by injection he with e1 e2; exact ⟨e1, e2⟩
      exact ⟨j, x.1, g1, g2, rfl⟩
  have mm_none : ∀ b, lk (outDl d B m out).mm b = none → ∀ p ∈ m, p.1 ≠ b := fun b hb p hp e => by
    obtain ⟨j, hj⟩ := List.getElem?_of_mem hp
    have hlt : j < out.mem.length := by rw [hR.len]; exact (List.getElem?_eq_some_iff.1 hj).1
    refine lk_none hb out.mem[j] (List.mem_append_right _ (List.mem_map.2 ⟨(p, out.mem[j]), ?_, by rw [← e]⟩))
    exact List.mem_of_getElem? (List.getElem?_zip_eq_some.2 ⟨hj, List.getElem?_eq_getElem hlt⟩)
  have βlt : ∀ k cs', f.mem k = some cs' → C.β k < w.heap.size := fun k cs' hk => by obtain ⟨_, ⟨arr', ty', h2, _⟩, _⟩ := h.mem k cs' hk; exact heap_lt h2
  have mem_ex : ∀ b cs, f'.mem b = some cs → (b = d ∧ out.nb = some cs) ∨ (b ≠ d ∧ ∃ c0, f.mem b = some c0) := fun b cs hb => by
    have hb' : (match lk (outDl d B m out).mm b with | some cs => some cs | none => f.mem b) = some cs := hb
    have hne : ∀ c0, f.mem b = some c0 → b ≠ d := fun c0 h0 e => by rw [e] at h0; rw [(h.mem d c0 h0).1] at hud; cases hud
    cases hq : lk (outDl d B m out).mm b with
    | none => rw [hq] at hb'; exact .inr ⟨hne _ hb', _, hb'⟩
    | some c1 =>
      rw [hq] at hb'
      obtain rfl := Option.some.inj hb'
      rcases mm_inv b c1 hq with h1 | ⟨j, p, h1, h2, rfl⟩
      · exact .inl h1
      · obtain ⟨cs', h3, _⟩ := hmk p (List.mem_of_getElem? h1)
        exact .inr ⟨hne _ h3, _, h3⟩
  have β_old : ∀ b, b ≠ d → C'.β b = C.β b := fun b hb => by show (if _ then _ else _) = _; rw [if_neg (fun hh => hb hh.2)]
  have β_new : ∀ cs, out.nb = some cs → C'.β d = bn := fun cs hb => by show (if _ then _ else _) = _; rw [if_pos ⟨by rw [hb]; rfl, rfl⟩]
  have hRel : Rel P G f' C' a w' := {
    nle := h.nle
    bas := (β_old K0 (Ne.symm (Nat.ne_of_lt hdK))).trans h.bas
    ubK := by
      have h1 : Nat.beq K0 d = false := by cases hq : Nat.beq K0 d with | false => rfl | true => exact absurd (Nat.eq_of_beq_eq_true hq) (Ne.symm (Nat.ne_of_lt hdK))
      show ((out.nb.isSome && Nat.beq K0 d) || f.ub K0) = false
      rw [h1, h.ubK]; simp
    sz := h.sz, df := h.df
    env := fun k => (h.env k).mono keep
    mem := fun b cs hb => by
      have hb' : (match lk (outDl d B m out).mm b with | some cs => some cs | none => f.mem b) = some cs := hb
      cases hq : lk (outDl d B m out).mm b with
      | none =>
        rw [hq] at hb'
        obtain ⟨h1, ⟨arr, ty, h2, h3⟩, h4, h5⟩ := h.mem b cs hb'
        have hne : b ≠ d := fun e => by rw [e, hud] at h1; cases h1
        rw [β_old b hne]
        refine ⟨by show (_ || f.ub b) = true; rw [h1, Bool.or_true], ⟨arr, ty, ?_, h3.mono keep⟩, h4, fun c => hR.F1 _ _ (h5 c)⟩
        rw [hR.block _ (heap_lt h2) fun p hp e => ?_]
        · exact h2
        · obtain ⟨cs', h6, _⟩ := hmk p hp
          exact mm_none b hq p hp (h.inj p.1 b cs' cs h6 hb' e.symm)
      | some c1 =>
        rw [hq] at hb'
        obtain rfl := Option.some.inj hb'
        rcases mm_inv b c1 hq with ⟨rfl, hnb⟩ | ⟨j, p, h1, h2, rfl⟩
        · obtain ⟨g1, g2, g3, arr, ty, g4, g5⟩ := hR.new c1 hnb
          rw [β_new c1 hnb]
          exact ⟨by show ((out.nb.isSome && Nat.beq b b) || _) = true; rw [hnb]; simp, ⟨arr, ty, g4, clean_rep _ _ g1 g5⟩, .inl (Nat.le_trans h.size g2), g3⟩
        · obtain ⟨cs', h3, _⟩ := hmk p (List.mem_of_getElem? h1)
          obtain ⟨k1, ⟨arr0, ty0, k2, _⟩, k4, k5⟩ := h.mem p.1 cs' h3
          have hne : p.1 ≠ d := fun e => by rw [e, hud] at k1; cases k1
          obtain ⟨g1, arr, ty, g2, g3⟩ := hR.mem j p c1 h1 h2
          rw [β_old _ hne]
          exact ⟨by show (_ || f.ub p.1) = true; rw [k1, Bool.or_true], ⟨arr, ty, g2, clean_rep _ _ g1 g3⟩, k4, fun c => hR.F1 _ _ (k5 c)⟩
    inj := fun b b' cs cs' hb hb' he => by
      rcases mem_ex b cs hb with ⟨rfl, g⟩ | ⟨n1, c1, g1⟩ <;> rcases mem_ex b' cs' hb' with ⟨g2, g'⟩ | ⟨n2, c2, g2⟩
      · exact g2.symm
      · rw [β_new _ g, β_old _ n2] at he
        have := βlt b' c2 g2
        have := (hR.new _ g).2.1
        omega
      · subst g2
        rw [β_new _ g', β_old _ n1] at he
        have := βlt b c1 g1
        have := (hR.new _ g').2.1
        omega
      · rw [β_old _ n1, β_old _ n2] at he
        exact h.inj b b' c1 c2 g1 g2 he
    tok := fun t v blk hi top hc ht => by
      have hc' : (match lk (outDl d B m out).cu t with | some v => some v | none => f.cur t) = some v := hc
      have ht' : (if (lk (outDl d B m out).cu t).isSome = true then τ (t - B) else C.τ t) = some (blk, hi, top) := ht
      cases hq : lk (outDl d B m out).cu t with
      | some v2 =>
        rw [hq] at ht'
        obtain ⟨s, rfl, g1, g2, g3⟩ := cu_new t v2 hq
        simp only [Option.isSome_some, if_true] at ht'
        rw [show B + s - B = s by omega] at ht'
        obtain ⟨k1, k2, k3, k4⟩ := hR.tok s v2 blk hi top g1 ht'
        refine ⟨k1, Nat.le_trans h.size k2, k3, fun b cs hb => ?_⟩
        rcases mem_ex b cs hb with ⟨rfl, g⟩ | ⟨n1, c1, g1'⟩
        · rw [β_new _ g]; exact k4 (by rw [g]; rfl)
        · rw [β_old _ n1]; have := βlt b c1 g1'; omega
      | none =>
        rw [hq] at hc' ht'
        simp only [Option.isSome_none, Bool.false_eq_true, if_false] at ht'
        obtain ⟨⟨arr, ty, k1, k2⟩, k3, k4, k5⟩ := h.tok t v blk hi top hc' ht'
        refine ⟨⟨arr, ty, ?_, k2⟩, k3, fun c hc => hR.F1 _ _ (k4 c hc), fun b cs hb => ?_⟩
        · rw [hR.block _ (heap_lt k1) fun p hp e => ?_]
          · exact k1
          · obtain ⟨cs', h6, _⟩ := hmk p hp
            exact k5 p.1 cs' h6 e.symm
        · rcases mem_ex b cs hb with ⟨rfl, g⟩ | ⟨n1, c1, g1'⟩
          · rw [β_new _ g]; have := (hR.new _ g).2.1; have := heap_lt k1; omega
          · rw [β_old _ n1]; exact k5 b c1 g1'
    tin := fun t t' v v' blk hi top hi' top' hc hc' ht ht' => by
      have e1 : (match lk (outDl d B m out).cu t with | some v => some v | none => f.cur t) = some v := hc
      have e2 : (match lk (outDl d B m out).cu t' with | some v => some v | none => f.cur t') = some v' := hc'
      have e3 : (if (lk (outDl d B m out).cu t).isSome = true then τ (t - B) else C.τ t) = some (blk, hi, top) := ht
      have e4 : (if (lk (outDl d B m out).cu t').isSome = true then τ (t' - B) else C.τ t') = some (blk, hi', top') := ht'
      have old_lt : ∀ s vs hs ts, f.cur s = some vs → C.τ s = some (blk, hs, ts) → blk < w.heap.size := fun s vs hs ts g1 g2 => by
        obtain ⟨⟨arr, ty, k1, _⟩, _⟩ := h.tok s vs blk hs ts g1 g2
        exact heap_lt k1
      cases hq : lk (outDl d B m out).cu t with
      | some v2 =>
        rw [hq] at e3
        obtain ⟨s, rfl, g1, _, _⟩ := cu_new t v2 hq
        simp only [Option.isSome_some, if_true] at e3
        rw [show B + s - B = s by omega] at e3
        have hge := (hR.tok s v2 blk hi top g1 e3).2.1
        cases hq' : lk (outDl d B m out).cu t' with
        | some v3 =>
          rw [hq'] at e4
          obtain ⟨s', rfl, g1', _, _⟩ := cu_new t' v3 hq'
          simp only [Option.isSome_some, if_true] at e4
          rw [show B + s' - B = s' by omega] at e4
          rw [hR.tin s s' v2 v3 blk hi top hi' top' g1 g1' e3 e4]
        | none =>
          rw [hq'] at e2 e4
          simp only [Option.isSome_none, Bool.false_eq_true, if_false] at e4
          have := old_lt t' v' hi' top' e2 e4; omega
      | none =>
        rw [hq] at e1 e3
        simp only [Option.isSome_none, Bool.false_eq_true, if_false] at e3
        have hlt := old_lt t v hi top e1 e3
        cases hq' : lk (outDl d B m out).cu t' with
        | some v3 =>
          rw [hq'] at e4
          obtain ⟨s', rfl, g1', _, _⟩ := cu_new t' v3 hq'
          simp only [Option.isSome_some, if_true] at e4
          rw [show B + s' - B = s' by omega] at e4
          have := (hR.tok s' v3 blk hi' top' g1' e4).2.1; omega
        | none =>
          rw [hq'] at e2 e4
          simp only [Option.isSome_none, Bool.false_eq_true, if_false] at e4
          exact h.tin t t' v v' blk hi top hi' top' e1 e2 e3 e4
    cut := fun t v hc => by
      have e1 : (match lk (outDl d B m out).cu t with | some v => some v | none => f.cur t) = some v := hc
      show (_ || f.ut t) = true
      cases hq : lk (outDl d B m out).cu t with
      | some v2 => rw [lk_any, hq]; rfl
      | none => rw [hq] at e1; rw [h.cut t v e1, Bool.or_true]
    one := by
      have h1 := cu_old 1 h.one.2.2
      refine ⟨?_, ?_, ?_⟩
      · show (match lk (outDl d B m out).cu 1 with | some v => some v | none => f.cur 1) = some 0
        rw [h1]; exact h.one.1
      · show (if (lk (outDl d B m out).cu 1).isSome = true then τ (1 - B) else C.τ 1) = none
        rw [h1]; exact h.one.2.1
      · show (_ || f.ut 1) = true
        rw [h.one.2.2, Bool.or_true]
    zro := by
      show (match lk (outDl d B m out).cu 0 with | some v => some v | none => f.cur 0) = none
      cases hq : lk (outDl d B m out).cu 0 with
      | some v2 => obtain ⟨s, g0, _, g2, _⟩ := cu_new 0 v2 hq; omega
      | none => exact h.zro
    F0 := fun b c hF => hR.F1 _ _ (h.F0 b c hF)
    glt := h.glt
    new := fun b c hF => by
      rcases hR.F2 b c hF with h1 | h1
      · exact h.new b c h1
      · exact .inr (.inl (Nat.le_trans h.size h1))
    lt := hR.F3
    pk := fun k hk => by
      obtain ⟨h1, h2⟩ := h.pk k hk
      have hne : k ≠ d := fun e => by rw [e, hud] at h2; cases h2
      exact ⟨by rw [β_old k hne]; exact h1, by show (_ || f.ub k) = true; rw [h2, Bool.or_true]⟩
    os := hR.os.trans h.os, tape := hR.tape.trans h.tape, out := hR.out.trans h.out
    size := Nat.le_trans h.size hR.size
    block := fun k hk hp => by
      rw [hR.block k (Nat.lt_of_lt_of_le hk h.size) fun p hp' e => ?_]
      · exact h.block k hk hp
      · obtain ⟨cs', h6, _⟩ := hmk p hp'
        rcases (h.mem p.1 cs' h6).2.2.1 with h1 | h1
        · omega
        · exact hp (e ▸ h1) }
  refine ⟨C', ?_⟩
  rw [happ]
  refine hRel.put dst hd _ _ (hR.res.shift d B fun x u hx => ?_)
  refine ⟨?_, ?_⟩
  · have hk : ∀ k, ((out.nb.isSome && Nat.beq k 0) || f.ub k) = true → k ≠ 0 → f'.ub k = true ∧ (k ≠ K0 → C'.β k = (if out.nb.isSome = true ∧ k = 0 then bn else if k = K0 then w.heap.size else C.β k)) := fun k hk hne => by
      have h1 : f.ub k = true := by
        rcases Bool.or_eq_true _ _ ▸ hk with h2 | h2
        · rw [Bool.and_eq_true] at h2; exact absurd (Nat.eq_of_beq_eq_true h2.2) hne
        · exact h2
      have hkd : k ≠ d := fun e => by rw [e, hud] at h1; cases h1
      exact ⟨by show (_ || f.ub k) = true; rw [h1, Bool.or_true], fun hk0 => by rw [β_old k hkd, if_neg (fun hh => hne hh.2), if_neg hk0]⟩
    have h1 := hx.1
    cases x with
    | lst t v e es => exact (h1.cleanly' (by rfl)).relst
    | ptr b off =>
      show Rep P F' C'.β f'.ub w' (.ptr (bif Nat.beq b 0 then d else b) off) u
      cases h1 with
      | ptr _ _ hb =>
        by_cases hb0 : b = 0
        · subst hb0
          have hs : out.nb.isSome = true := by
            rcases Bool.or_eq_true _ _ ▸ hb with h2 | h2
            · rw [Bool.and_eq_true] at h2; exact h2.1
            · rw [hu0] at h2; cases h2
          obtain ⟨cs, hcs⟩ := Option.isSome_iff_exists.1 hs
          have e1 : (if out.nb.isSome = true ∧ 0 = 0 then bn else if 0 = K0 then w.heap.size else C.β 0) = bn := if_pos ⟨hs, rfl⟩
          rw [e1, ← β_new cs hcs]
          exact .ptr d off (by show ((out.nb.isSome && Nat.beq d d) || _) = true; rw [hs]; simp)
        · have hbq : Nat.beq b 0 = false := by
            cases hq : Nat.beq b 0 with
            | false => rfl
            | true => exact absurd (Nat.eq_of_beq_eq_true hq) hb0
          rw [hbq]
          obtain ⟨g1, g2⟩ := hk b hb hb0
          have hbK : b ≠ K0 := fun e => by
            subst e
            have : f.ub K0 = true := by
              rcases Bool.or_eq_true _ _ ▸ hb with h2 | h2
              · rw [Bool.and_eq_true] at h2; exact absurd (Nat.eq_of_beq_eq_true h2.2) hb0
              · exact h2
            rw [h.ubK] at this; cases this
          rw [← g2 hbK]
          exact .ptr b off g1
    | eptr cs => exact h1.cleanly' (by rfl)
    | row bx n e => exact .nul _ h1.oneCell
    | nul => exact h1.cleanly' (by rfl)
    | nilp => exact h1.cleanly' (by rfl)
    | fn g => exact h1.cleanly' (by rfl)
    | nl e es =>
      refine h1.cleanN ?_ rfl
      rw [β_old K0 (Ne.symm (Nat.ne_of_lt hdK)), h.bas, if_neg (fun hh => absurd hh.2 (by decide)), if_pos rfl]
      exact h.size
    | b x => exact h1.cleanly' (by rfl)
    | i k n => exact h1.cleanly' (by rfl)
    | s x => exact h1.cleanly' (by rfl)
  · have h2 := hx.2
    cases x with
    | lst t v e es =>
      show Tip P C'.τ f'.cur f'.ut (.lst (bif Nat.ble t 1 then t else B + t) v e es) u
      cases u with
      | slice ad len cap =>
        simp only [Tip] at h2 ⊢
        rcases h2 with rfl | ⟨hV, hc⟩
        · exact .inl rfl
        · obtain ⟨v0, hv0⟩ := Option.isSome_iff_exists.1 hV
          have ht := hR.tk t v0 hv0
          have hb : Nat.ble t 1 = false := by
            cases hb : Nat.ble t 1 with
            | false => rfl
            | true => have := Nat.le_of_ble_eq_true hb; omega
          rw [hb]
          simp only [cond_false]
          have hs : lk (outDl d B m out).cu (B + t) = some v0 := by rw [← hv0]; exact lk_shift (B) out.tk t
          refine .inr ⟨by show (_ || f.ut _) = true; rw [lk_any, hs]; rfl, fun c hcur => ?_⟩
          have hcur' : (match lk (outDl d B m out).cu (B + t) with | some v => some v | none => f.cur (B + t)) = some c := hcur
          rw [hs] at hcur'
          obtain rfl := Option.some.inj hcur'
          have := hc v0 hv0
          refine ⟨this.1, fun hvc => ?_⟩
          have hτ : C'.τ (B + t) = τ t := by
            show (if (lk (outDl d B m out).cu (B + t)).isSome = true then τ (B + t - B) else C.τ (B + t)) = τ t
            rw [hs, show B + t - B = t by omega]; rfl
          rw [hτ]
          exact this.2 hvc
      | _ => trivial
    | _ => trivial
end
end Go.Proofs.Ytpeejmolbmhjjaa.Sx
