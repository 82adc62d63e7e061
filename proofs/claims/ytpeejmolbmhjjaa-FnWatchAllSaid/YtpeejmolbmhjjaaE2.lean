/- What EarRanges comes to, told as a contract of the reading: at most two ranges; there is no condition beyond those each statement names. -/
import Derived.Test.YtpeejmolbmhjjaaE1
import Derived.Test.YtpeejmolbmhjjaaBE0
namespace Go.Proofs.Ytpeejmolbmhjjaa.Sx
set_option linter.unusedSimpArgs false
set_option linter.unusedVariables false
open Go Go.RowKit Go.Proofs.YtpeejmolbmhjjaaW.PrintWords Go.Proofs.Ytpeejmolbmhjjaa.Ears
set_option maxRecDepth 100000
def toS (e : Early) : S138 := ⟨e.pl, e.b⟩
theorem ow (n : Int) (h1 : -9223372036854775808 ≤ n) (h2 : n < 9223372036854775808) : wrap64 n = n := by unfold wrap64; omega
theorem earOk_l0 (a b : Int) (g : List Int) (f : List S138) (hf : f.length < 1000000000) : ∀ (n : Nat) (x : Int), 0 ≤ x → x ≤ f.length → n = f.length - x.toNat → ∀ k, n < k → ∃ r, spec_EarOk.l0 k x a b g f = some r := by
  intro n
  induction n with
  | zero =>
    intro x h0 h1 hn k hk
    obtain ⟨k, rfl⟩ : ∃ j, k = j + 1 := ⟨k - 1, by omega⟩
    refine ⟨true, ?_⟩
    rw [spec_EarOk.l0, if_neg (by omega)]
  | succ n ih =>
    intro x h0 h1 hn k hk
    obtain ⟨k, rfl⟩ : ∃ j, k = j + 1 := ⟨k - 1, by omega⟩
    rw [spec_EarOk.l0, if_pos (by omega), if_pos h0]
    split
    · exact ⟨_, rfl⟩
    split
    · exact ⟨_, rfl⟩
    rw [ow (x - 1) (by omega) (by omega), ow (x + 1) (by omega) (by omega)]
    split
    · rw [if_pos (by omega), if_pos (by omega)]
      split
      · exact ⟨_, rfl⟩
      · exact ih _ (by omega) (by omega) (by omega) k (by omega)
    · exact ih _ (by omega) (by omega) (by omega) k (by omega)
theorem earOk_f (a b : Int) (g : List Int) (f : List S138) (hf : f.length < 1000000000) (k : Nat) (hk : f.length + 1 < k) : ∃ r, spec_EarOk.f k a b g f = some r := by
  have j : ∀ x, ∃ r, spec_EarOk.j0 k x a b g f = some r := by
    intro x
    obtain ⟨k, rfl⟩ : ∃ j, k = j + 1 := ⟨k - 1, by omega⟩
    rw [spec_EarOk.j0]
    split
    · exact ⟨_, rfl⟩
    · exact earOk_l0 a b g f hf _ 0 (by omega) (by omega) rfl k (by simp; omega)
  have l : ∀ x y z, ∃ r, spec_l1In.f x y z = some r := by
    intro x y z
    unfold spec_l1In.f
    split <;> exact ⟨_, rfl⟩
  unfold spec_EarOk.f
  obtain ⟨r1, h1⟩ := l a 0 1000000
  rw [h1, Option.bind_some]
  split
  · obtain ⟨r2, h2⟩ := l b 1 32
    rw [h2, Option.bind_some]
    split
    · exact j _
    · exact j _
  · exact j _
theorem ranges_l0 (a b : Int) (g : List Int) (f : List S138) (hf : f.length < 1000000000) : ∀ (n : Nat) (x : Int) (acc : List S108), acc.length ≤ 2 → 0 ≤ x → x ≤ f.length → n = f.length - x.toNat → ∀ k, 2 * n < k → ∃ r, spec_EarRanges.l0 k acc x a b g f = some r ∧ r.length ≤ 2 := by
  intro n
  induction n with
  | zero =>
    intro x acc ha h0 h1 hn k hk
    obtain ⟨k, rfl⟩ : ∃ j, k = j + 1 := ⟨k - 1, by omega⟩
    refine ⟨acc, ?_, ha⟩
    rw [spec_EarRanges.l0, if_neg (by omega)]
  | succ n ih =>
    intro x acc ha h0 h1 hn k hk
    obtain ⟨k, rfl⟩ : ∃ j, k = j + 1 + 1 := ⟨k - 2, by omega⟩
    have j : ∀ (y : Int) (q : Bool), (q = true → 0 ≤ y ∧ y < acc.length) → ∃ r, spec_EarRanges.j1 (k + 1) acc x y q a b g f = some r ∧ r.length ≤ 2 := by
      intro y q hy
      rw [spec_EarRanges.j1, ow (x + 1) (by omega) (by omega)]
      split
      · rename_i hq
        rw [if_pos (hy hq).1, if_pos (hy hq).2]
        exact ih _ _ (by simpa using ha) (by omega) (by omega) (by omega) k (by omega)
      · split
        · first | rw [if_pos h0, if_pos (by omega), if_pos (by omega)] | rw [if_pos (by omega), if_pos (by omega)]
          exact ih _ _ (by simp; omega) (by omega) (by omega) (by omega) k (by omega)
        · exact ih _ _ ha (by omega) (by omega) (by omega) k (by omega)
    rw [spec_EarRanges.l0, if_pos (by omega), ow ((acc.length : Int) - 1) (by omega) (by omega)]
    split
    · first | rw [if_pos (by omega), if_pos (by omega), if_pos h0] | rw [if_pos (by omega), if_pos h0] | rw [if_pos (by omega)]
      exact j _ _ (fun _ => ⟨by omega, by omega⟩)
    · exact j _ _ (fun h => nomatch h)
theorem ranges_f (a b : Int) (g : List Int) (f : List S138) (hf : f.length < 1000000000) : ∃ k r, spec_EarRanges.f k a b g f = some r ∧ r.length ≤ 2 := by
  refine ⟨2 * f.length + 3, ?_⟩
  unfold spec_EarRanges.f
  obtain ⟨r1, h1⟩ := earOk_f a b g f hf (2 * f.length + 3) (by omega)
  rw [Option.bind_some, h1, Option.bind_some]
  split
  · exact ranges_l0 a b g f hf _ 0 [] (by simp) (by omega) (by omega) rfl _ (by simp)
  · exact ⟨_, rfl, by simp⟩
theorem add_addr2 {x : Addr} (h : x.spot = none) (i : Nat) : x.add i = ⟨x.block, x.off + i, none⟩ := by
  unfold Addr.add
  split
  · next h2 => subst h2; cases x; simp_all
  · rfl
section
variable {P : Program} {F : Nat → Nat → Prop} {β : Nat → Nat} {U : Nat → Bool} {w : World}
/-- A list that is read, told as the kit's words tell it. -/
theorem C_of {α γ : Type} (d : Kd α) (f : γ → List AV) (g : γ → α) (val : γ → List Value) (e sz : Nat) (he : P.cellsOf e = sz) (hd : d.sz = sz) (hlen : ∀ x, (f x).length = sz) (hval : ∀ x, (val x).length = sz)
    (hv : ∀ (x : γ) (c : Nat) (a : AV) (v : Value), (f x)[c]? = some a → Rep P F β U w a v → (val x)[c]? = some v) (hK : ∀ x, d.K w (g x) (val x)) (l : List γ) (hl : l.length ≤ 9223372036854775807) {v : Value}
    (h : Rep P F β U w (.lst 0 0 e (l.map f)) v) : ∃ A c, v = .slice A (l.map g).length c ∧ (l.map g).length ≤ c ∧ Kd.C d w A (l.map g).length (l.map g) := by
  generalize hes : l.map f = es at h
  cases h with
  | nil =>
    have : l = [] := by simpa using hes
    subst this
    exact ⟨none, 0, rfl, Nat.le_refl _, rfl, by simp, fun h => absurd h (by simp)⟩
  | lst _ _ _ _ blk off cap vals hcap h1 h2 h3 =>
    have hll : es.length = (l.map g).length := by rw [← hes]; simp
    refine ⟨some ⟨blk, off, none⟩, cap, by rw [hll], by rw [← hll]; exact hcap, rfl, by simpa using hl, fun _ => ⟨_, rfl, fun j p hp => ?_⟩⟩
    rw [List.getElem?_map] at hp
    cases hq : l[j]? with
    | none => rw [hq] at hp; cases hp
    | some x =>
      rw [hq] at hp
      obtain rfl := Option.some.inj hp
      have hes2 : es[j]? = some (f x) := by rw [← hes, List.getElem?_map, hq]; rfl
      refine ⟨val x, by rw [hval, hd], hK x, fun i u hu => ?_⟩
      have hi : i < (f x).length := by rw [hlen, ← hval x]; exact (List.getElem?_eq_some_iff.1 hu).1
      have ha := List.getElem?_eq_getElem hi
      obtain ⟨_, h4, _⟩ := h2 j i (f x) _ hes2 ha
      have h5 := hv x i _ _ ha (h3 j i (f x) _ hes2 ha)
      rw [hu] at h5
      obtain rfl := Option.some.inj h5
      rw [he] at h4
      rw [hd, add_addr2 rfl]
      exact h4
end
theorem cells138 : Try.prog.cellsOf 138 = 2 := by kernel_rfl
theorem cells108 : Try.prog.cellsOf 108 = 2 := by kernel_rfl
theorem cells5b : Try.prog.cellsOf 5 = 1 := by kernel_rfl
theorem earRanges_r (e : Ear) (hg : e.got.length < 1000000000) (hf : e.far.length < 1000000000) : Fx 188 [e.v] fun v => ∃ l : List Rng, l.length ≤ 2 ∧ v = .pv (false, [rgs l]) := by
  refine ⟨Try.call188, fun F β U w vals hF hU0 hbox hinj hlen hrep => ?_⟩
  obtain ⟨u, hu⟩ : ∃ u, vals = #[u] := by
    refine ⟨vals[0]'(by simp at hlen; omega), ?_⟩
    apply Array.ext
    · simp at hlen; simp; omega
    · intro i h1 h2
      simp at h2; subst h2; rfl
  subst hu
  obtain ⟨arr, rfl, h1⟩ := (hrep 0 _ u rfl rfl).agg_inv
  obtain ⟨v1, vs1, e1, r1, h2⟩ := RepL.cons_inv h1
  obtain ⟨v2, vs2, rfl, r2, h3⟩ := RepL.cons_inv h2
  obtain ⟨v3, vs3, rfl, r3, h4⟩ := RepL.cons_inv h3
  obtain ⟨v4, vs4, rfl, r4, h5⟩ := RepL.cons_inv h4
  have : vs4 = [] := List.eq_nil_of_length_eq_zero h5.1.symm
  subst this
  have ha : arr = #[v1, v2, v3, v4] := Array.toList_inj.1 e1
  subst ha
  cases r1
  cases r2
  have hb : Rep Try.prog F β U w (.lst 0 0 5 (e.got.map fun x => [AV.i .u8 x])) v3 := r3
  obtain ⟨A3, c3, rfl, l3, k3⟩ := C_of (Kd.int .u8) (fun x : Int => [AV.i .u8 x]) (fun x => x) (fun x => [Value.int .u8 x]) 5 1 cells5b rfl (fun _ => rfl) (fun _ => rfl) (fun x c a v hc hr => by
    cases c with
    | zero => simp at hc; subst hc; cases hr; rfl
    | succ c => simp at hc) (fun x => rfl) e.got (by omega) hb
  obtain ⟨A4, c4, rfl, l4, k4⟩ := C_of k138 Early.c toS (fun x => [Value.int .i64 x.pl, Value.int .u8 x.b]) 138 2 cells138 rfl (fun _ => rfl) (fun _ => rfl) (fun x c a v hc hr => by
    match c with
    | 0 => simp [Early.c] at hc; subst hc; cases hr; rfl
    | 1 => simp [Early.c] at hc; subst hc; cases hr; rfl
    | c + 2 => simp [Early.c] at hc) (fun x => k138_mk w (toS x)) e.far (by omega) r4
  obtain ⟨k, r, hfk, hr2⟩ := ranges_f e.next e.room (e.got.map fun x => x) (e.far.map toS) (by simpa using hf)
  refine (spec_EarRanges.calls k e.next e.room A3 c3 (e.got.map fun x => x) A4 c4 (e.far.map toS) r w k3 l3 k4 l4 hfk).mono ?_
  rintro en w' ⟨v0, rfl, hR, hb⟩
  refine ⟨v0, { res := .pv (false, [rgs (r.map fun s => ⟨s.f0, s.f1⟩)]) }, F, 0, fun _ => none, rfl, ⟨_, ⟨_, by simpa using hr2, rfl⟩, rfl⟩, ?_⟩
  have hres : Rep Try.prog F β U w' (rgs (r.map fun s => ⟨s.f0, s.f1⟩)) v0 := by
    obtain ⟨_, inner, ⟨hil, ho⟩, hreps⟩ := id hR
    rcases ho with ⟨rfl, hn⟩ | ⟨g, cap, cur, rfl, hge, hg2, hcap, _, hsz, htk⟩
    · have : r = [] := List.eq_nil_of_length_eq_zero hn
      subst this
      exact .nil ..
    · obtain ⟨_, _, hC⟩ := Kd.R_reads' hR
      have hlr : (List.map Rng.c (r.map fun s => (⟨s.f0, s.f1⟩ : Rng))).length = r.length := by simp
      have key : ∀ (j c : Nat) (xs : List AV) (x : AV), (List.map Rng.c (r.map fun s => (⟨s.f0, s.f1⟩ : Rng)))[j]? = some xs → xs[c]? = some x → x.clean = true ∧ ∃ n, x = .i .i64 n ∧ w'.cell? ⟨g, 0 + (j * Try.prog.cellsOf 108 + c), none⟩ = some (.int .i64 n) := by
        intro j c xs x hx hy
        have hj : j < r.length := by rw [← hlr]; exact (List.getElem?_eq_some_iff.1 hx).1
        rw [List.getElem?_map, List.getElem?_map, List.getElem?_eq_getElem hj] at hx
        obtain rfl := Option.some.inj hx
        obtain ⟨ad, had, hcell⟩ := hC.2.2 (by omega)
        obtain rfl := Option.some.inj had
        obtain ⟨cc, hcl, hcK, hcc⟩ := hcell j _ (List.getElem?_eq_getElem hj)
        obtain rfl := k108_open hcK
        rw [cells108]
        have hsz2 : k108.sz = 2 := rfl
        match c with
        | 0 =>
          simp [Rng.c] at hy; subst hy
          have := hcc 0 _ rfl
          rw [hsz2, add_addr2 rfl] at this
          exact ⟨rfl, _, rfl, this⟩
        | 1 =>
          simp [Rng.c] at hy; subst hy
          have := hcc 1 _ rfl
          rw [hsz2, add_addr2 rfl] at this
          exact ⟨rfl, _, rfl, this⟩
        | c + 2 => simp [Rng.c] at hy
      have := Rep.lst (P := Try.prog) (F := F) (β := β) (U := U) (w := w') 0 0 108 (List.map Rng.c (r.map fun s => (⟨s.f0, s.f1⟩ : Rng))) g 0 cap (fun j c => (w'.cell? ⟨g, 0 + (j * Try.prog.cellsOf 108 + c), none⟩).getD undef) (by rw [hlr]; exact hcap)
        (fun xs hxs => by
          rw [cells108]
          obtain ⟨y, _, rfl⟩ := List.mem_map.1 hxs
          rfl)
        (fun j c xs x hx hy => by
          obtain ⟨h1, n, rfl, h2⟩ := key j c xs x hx hy
          exact ⟨h1, by rw [h2]; rfl, fun hh => by have := hF _ _ hh; omega⟩)
        (fun j c xs x hx hy => by
          obtain ⟨h1, n, rfl, h2⟩ := key j c xs x hx hy
          rw [h2]; exact .i _ _)
      rw [hlr] at this
      exact this
  exact {
    os := hb.os, tape := hb.tape, out := hb.output, size := hb.size
    block := fun k hk _ => hb.block k hk
    len := rfl
    mem := fun j p cs hp _ => by simp at hp
    F1 := fun _ _ h => h
    F2 := fun _ _ h => .inl h
    F3 := fun b c h => Nat.lt_of_lt_of_le (hF b c h) hb.size
    new := fun cs h => by cases h
    tk := fun t v h => by cases h
    tok := fun t v blk hi top h _ => by cases h
    tin := fun t t' v v' blk hi top hi' top' h _ _ _ => by cases h
    res := RepP.one hres.oneCell ⟨by simpa using hres, by unfold Tip rgs; cases v0 <;> first | exact .inl rfl | trivial⟩ }
end Go.Proofs.Ytpeejmolbmhjjaa.Sx
