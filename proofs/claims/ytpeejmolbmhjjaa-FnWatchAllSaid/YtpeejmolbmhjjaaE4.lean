/- What l12Put comes to, told as a contract of the reading; there is no condition beyond those each statement names. -/
import Derived.Test.YtpeejmolbmhjjaaE3
import Derived.Test.YtpeejmolbmhjjaaE2
namespace Go.Proofs.Ytpeejmolbmhjjaa.Sx
set_option linter.unusedSimpArgs false
set_option linter.unusedVariables false
open Go Go.RowKit Go.Proofs.YtpeejmolbmhjjaaW.PrintWords Go.Proofs.Ytpeejmolbmhjjaa.Ears
set_option maxRecDepth 100000
theorem put_l0 (f : List S138) (a b : Int) (hf : f.length < 1000000000) : ∀ (n : Nat) (x : Int) (acc : List S138) (dn : Bool), acc.length ≤ x + 1 → (dn = false → acc.length ≤ x) → 0 ≤ x → x ≤ f.length → n = f.length - x.toNat → ∀ k, 2 * n < k →
    ∃ r, spec_l12Put.l0 k f acc dn x a b = some r ∧ r.length ≤ f.length + 1 := by
  intro n
  induction n with
  | zero =>
    intro x acc dn h1 h2 h3 h4 hn k hk
    obtain ⟨k, rfl⟩ : ∃ j, k = j + 1 := ⟨k - 1, by omega⟩
    rw [spec_l12Put.l0, if_neg (by omega)]
    split
    · exact ⟨_, rfl, by omega⟩
    · rename_i hd
      have := h2 (by simpa using hd)
      rw [if_pos (by omega)]
      exact ⟨_, rfl, by simp; omega⟩
  | succ n ih =>
    intro x acc dn h1 h2 h3 h4 hn k hk
    obtain ⟨k, rfl⟩ : ∃ j, k = j + 1 + 1 := ⟨k - 2, by omega⟩
    have j : ∀ q : Bool, (q = true → dn = false) → ∃ r, spec_l12Put.j1 (k + 1) f acc dn x q a b = some r ∧ r.length ≤ f.length + 1 := by
      intro q hq
      have hx : x < (f.length : Int) := by omega
      have hN : acc.length < 8796093022208 := by omega
      have hN2 : ∀ y : S138, (acc ++ [y]).length < 8796093022208 := fun y => by simp; omega
      have e1 := ih (x + 1) (acc ++ [⟨(rd_T138 f x).f0, (rd_T138 f x).f1⟩])
      have e2 := ih (x + 1) (acc ++ [⟨a, b⟩] ++ [⟨(rd_T138 f x).f0, (rd_T138 f x).f1⟩])
      simp only [List.length_append, List.length_singleton] at e1 e2
      rw [spec_l12Put.j1, ow (x + 1) (by omega) (by omega)]
      cases q with
      | true =>
        have h6 := h2 (hq rfl)
        simp only [Option.bind_some, h3, hx, hN, hN2, if_true]
        split
        · exact e2 true (by omega) (fun h => nomatch h) (by omega) (by omega) (by omega) k (by omega)
        · exact e2 true (by omega) (fun h => nomatch h) (by omega) (by omega) (by omega) k (by omega)
      | false =>
        simp only [h3, hx, hN, if_true, Bool.false_eq_true, if_false]
        split
        · exact e1 true (by omega) (fun h => nomatch h) (by omega) (by omega) (by omega) k (by omega)
        · exact e1 dn (by omega) (fun h => by have := h2 h; omega) (by omega) (by omega) (by omega) k (by omega)
    have hx : x < (f.length : Int) := by omega
    rw [spec_l12Put.l0]
    cases dn with
    | true =>
      simp only [hx, if_true]
      exact j false (fun h => nomatch h)
    | false =>
      simp only [hx, h3, if_true, Bool.false_eq_true, if_false]
      exact j _ (fun _ => rfl)
theorem put_r (l : List Early) (x : Early) (hl : l.length < 1000000000) : Fx 191 [(false, [.lst 0 0 138 (l.map Early.c)]), x.v] fun v => ∃ r : List Early, r.length ≤ l.length + 1 ∧ v = .pv (false, [.lst 0 0 138 (r.map Early.c)]) := by
  refine ⟨Try.call191, fun F β U w vals hF hU0 hbox hinj hlen hrep => ?_⟩
  obtain ⟨u0, u1, hu⟩ : ∃ u0 u1, vals = #[u0, u1] := by
    refine ⟨vals[0]'(by simp at hlen; omega), vals[1]'(by simp at hlen; omega), ?_⟩
    apply Array.ext
    · simp at hlen; simp; omega
    · intro i h1 h2
      simp at h2
      have : i = 0 ∨ i = 1 := by omega
      rcases this with rfl | rfl <;> rfl
  subst hu
  have q0 := (hrep 0 _ u0 rfl rfl).one_inv.2
  obtain ⟨arr, rfl, h1⟩ := (hrep 1 _ u1 rfl rfl).agg_inv
  obtain ⟨v1, vs1, e1, r1, h2⟩ := RepL.cons_inv h1
  obtain ⟨v2, vs2, rfl, r2, h3⟩ := RepL.cons_inv h2
  have : vs2 = [] := List.eq_nil_of_length_eq_zero h3.1.symm
  subst this
  have ha : arr = #[v1, v2] := Array.toList_inj.1 e1
  subst ha
  cases r1
  cases r2
  obtain ⟨A4, c4, rfl, l4, k4⟩ := C_of k138 Early.c toS (fun x => [Value.int .i64 x.pl, Value.int .u8 x.b]) 138 2 cells138 rfl (fun _ => rfl) (fun _ => rfl) (fun x c a v hc hr => by
    match c with
    | 0 => simp [Early.c] at hc; subst hc; cases hr; rfl
    | 1 => simp [Early.c] at hc; subst hc; cases hr; rfl
    | c + 2 => simp [Early.c] at hc) (fun x => k138_mk w (toS x)) l (by omega) q0
  obtain ⟨r, hfk, hr2⟩ := put_l0 (l.map toS) x.pl x.b (by simpa using hl) _ 0 [] false (by simp) (fun _ => by simp) (by omega) (by omega) rfl (2 * (l.map toS).length + 1) (by simp)
  refine (spec_l12Put.calls _ A4 c4 (l.map toS) x.pl x.b r w k4 l4 hfk).mono ?_
  rintro en w' ⟨v0, rfl, hR, hb⟩
  refine ⟨v0, { res := .pv (false, [.lst 0 0 138 ((r.map fun s => (⟨s.f0, s.f1⟩ : Early)).map Early.c)]) }, F, 0, fun _ => none, rfl, ⟨_, ⟨_, by simpa using hr2, rfl⟩, rfl⟩, ?_⟩
  have hres : Rep Try.prog F β U w' (.lst 0 0 138 ((r.map fun s => (⟨s.f0, s.f1⟩ : Early)).map Early.c)) v0 := by
    obtain ⟨_, inner, ⟨hil, ho⟩, hreps⟩ := id hR
    rcases ho with ⟨rfl, hn⟩ | ⟨g, cap, cur, rfl, hge, hg2, hcap, _, hsz, htk⟩
    · have : r = [] := List.eq_nil_of_length_eq_zero hn
      subst this
      exact .nil ..
    · obtain ⟨_, _, hC⟩ := Kd.R_reads' hR
      have hlr : (List.map Early.c (r.map fun s => (⟨s.f0, s.f1⟩ : Early))).length = r.length := by simp
      have key : ∀ (j c : Nat) (xs : List AV) (x : AV), (List.map Early.c (r.map fun s => (⟨s.f0, s.f1⟩ : Early)))[j]? = some xs → xs[c]? = some x → x.clean = true ∧ ∃ k n, x = .i k n ∧ w'.cell? ⟨g, 0 + (j * Try.prog.cellsOf 138 + c), none⟩ = some (.int k n) := by
        intro j c xs x hx hy
        have hj : j < r.length := by rw [← hlr]; exact (List.getElem?_eq_some_iff.1 hx).1
        rw [List.getElem?_map, List.getElem?_map, List.getElem?_eq_getElem hj] at hx
        obtain rfl := Option.some.inj hx
        obtain ⟨ad, had, hcell⟩ := hC.2.2 (by omega)
        obtain rfl := Option.some.inj had
        obtain ⟨cc, hcl, hcK, hcc⟩ := hcell j _ (List.getElem?_eq_getElem hj)
        obtain rfl := k138_open hcK
        rw [cells138]
        have hsz2 : k138.sz = 2 := rfl
        match c with
        | 0 =>
          simp [Early.c] at hy; subst hy
          have := hcc 0 _ rfl
          rw [hsz2, add_addr2 rfl] at this
          exact ⟨rfl, _, _, rfl, this⟩
        | 1 =>
          simp [Early.c] at hy; subst hy
          have := hcc 1 _ rfl
          rw [hsz2, add_addr2 rfl] at this
          exact ⟨rfl, _, _, rfl, this⟩
        | c + 2 => simp [Early.c] at hy
      have := Rep.lst (P := Try.prog) (F := F) (β := β) (U := U) (w := w') 0 0 138 (List.map Early.c (r.map fun s => (⟨s.f0, s.f1⟩ : Early))) g 0 cap (fun j c => (w'.cell? ⟨g, 0 + (j * Try.prog.cellsOf 138 + c), none⟩).getD undef) (by rw [hlr]; exact hcap)
        (fun xs hxs => by
          rw [cells138]
          obtain ⟨y, _, rfl⟩ := List.mem_map.1 hxs
          rfl)
        (fun j c xs x hx hy => by
          obtain ⟨h1, k, n, rfl, h2⟩ := key j c xs x hx hy
          exact ⟨h1, by rw [h2]; rfl, fun hh => by have := hF _ _ hh; omega⟩)
        (fun j c xs x hx hy => by
          obtain ⟨h1, k, n, rfl, h2⟩ := key j c xs x hx hy
          rw [h2]; exact .i _ _)
      rw [hlr] at this
      exact this
  exact {
    os := hb.os, tape := hb.tape, out := hb.output, size := hb.size
    block := fun k hk _ => hb.block k hk
    len := rfl
    mem := fun j p cs hp _ => by simp at hp
    F1 := fun _ _ h => h
    F2 := fun _ _ h => .inl h
    F3 := fun b c h => Nat.lt_of_lt_of_le (hF b c h) hb.size
    new := fun cs h => by cases h
    tk := fun t v h => by cases h
    tok := fun t v blk hi top h _ => by cases h
    tin := fun t t' v v' blk hi top hi' top' h _ _ _ => by cases h
    res := RepP.one hres.oneCell ⟨by simpa using hres, by unfold Tip; cases v0 <;> first | exact .inl rfl | trivial⟩ }
end Go.Proofs.Ytpeejmolbmhjjaa.Sx
