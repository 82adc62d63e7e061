/- What the functions that FnMixed calls come to, told as contracts of the reading; there is no condition beyond those each statement names. -/
import Derived.Test.YtenphmeikbjimaaM0
import Derived.Test.YtenphmeikbjimaaPureFnMixed
namespace Go.Proofs.Ytenphmeikbjimaa.Sx
set_option linter.unusedSimpArgs false
set_option linter.unusedVariables false
open Go Go.RowKit Go.Proofs.YtenphmeikbjimaaVMixed.PrintWords Go.Proofs.Ytenphmeikbjimaa.GFnMixed
open Go.Proofs.Ytenphmeikbjimaa.Pure (Byt SealedR OpenedR rounds drawn_x impl_sealed_x spec_sealed_x impl_opened_x alive_x begins_x same_x)
set_option maxRecDepth 100000
theorem cells5b : Try.prog.cellsOf 5 = 1 := by kernel_rfl
theorem add_addr2 {x : Addr} (h : x.spot = none) (i : Nat) : x.add i = ⟨x.block, x.off + i, none⟩ := by
  unfold Addr.add
  split
  · next h2 => subst h2; cases x; simp_all
  · rfl
section
variable {F : Nat → Nat → Prop} {β : Nat → Nat} {U : Nat → Bool} {w w' : World}
/-- Bytes that are read, told as the kit's words tell them. -/
theorem argC {l : List Int} {v : Value} (h : Rep Try.prog F β U w (.lst 0 0 5 (bytes l)) v) (hl : l.length ≤ 9223372036854775807) : ∃ A c, v = .slice A l.length c ∧ l.length ≤ c ∧ Kd.C (Kd.int .u8) w A l.length l := by
  generalize hes : bytes l = es at h
  cases h with
  | nil =>
    have : l = [] := by simpa [bytes] using hes
    subst this
    exact ⟨none, 0, rfl, Nat.le_refl _, rfl, by simp, fun h => absurd h (by simp)⟩
  | lst _ _ _ _ blk off cap vals hcap h1 h2 h3 =>
    have hll : es.length = l.length := by rw [← hes]; simp
    refine ⟨some ⟨blk, off, none⟩, cap, by rw [hll], by rw [← hll]; exact hcap, rfl, hl, fun _ => ⟨_, rfl, fun j p hp => ⟨[.int .u8 p], rfl, rfl, fun i u hu => ?_⟩⟩⟩
    have hes2 : es[j]? = some [.i .u8 p] := by rw [← hes]; simp [bytes, List.getElem?_map, hp]
    cases i with
    | zero =>
      obtain rfl : Value.int .u8 p = u := by simpa using hu
      have h4 := (h2 j 0 _ _ hes2 rfl).2.1
      have h5 := h3 j 0 _ _ hes2 rfl
      rw [cells5b] at h4
      cases hv : vals j 0 with
      | int k n =>
        rw [hv] at h5 h4
        cases h5
        rw [add_addr2 rfl]
        exact h4
      | _ => rw [hv] at h5; cases h5
    | succ i => simp at hu
theorem cell_same {b o : Nat} (h : w'.heap[b]? = w.heap[b]?) : w'.cell? ⟨b, o, none⟩ = w.cell? ⟨b, o, none⟩ := by unfold World.cell?; rw [h]
theorem argV {l : List Int} {v : Value} (h : Rep Try.prog F β U w (.lst 0 0 5 (bytes l)) v) (hl : l.length ≤ 9223372036854775807) : ∃ A c, v = .slice A l.length c ∧ Kd.V (Kd.int .u8) 5 w w.heap.size (fun _ => True) (.slice A l.length c) l := by
  obtain ⟨A, c, rfl, h1, h2⟩ := argC h hl
  refine ⟨A, c, rfl, A, c, rfl, h1, fun W' hW' => ?_⟩
  have h3 : Rep Try.prog F β U W' (.lst 0 0 5 (bytes l)) (.slice A l.length c) := h.keep (fun b o u hc hF => ⟨by rw [cell_same (hW' b trivial (cell_lt hc))]; exact hc, hF⟩) (fun b hb => ⟨hb, rfl⟩)
  obtain ⟨A', c', e, _, h4⟩ := argC h3 hl
  injection e with e1 e2 e3
  subst e1
  exact h4
/-- Bytes of a call's own, as the reading tells them. -/
theorem resB {ok : Nat → Prop} {r : List Int} {v : Value} (hF : ∀ b c, F b c → b < w.heap.size) (hR : Kd.R (Kd.int .u8) 5 w' w.heap.size ok v r) : Rep Try.prog F β U w' (.lst 0 0 5 (bytes r)) v := by
  obtain ⟨_, inner, ⟨hil, ho⟩, hreps⟩ := id hR
  rcases ho with ⟨rfl, hn⟩ | ⟨g, cap, cur, rfl, hge, hg2, hcap, _⟩
  · have : r = [] := List.eq_nil_of_length_eq_zero hn
    subst this
    exact .nil ..
  · obtain ⟨_, _, hC⟩ := Kd.R_reads' hR
    have key : ∀ (j c : Nat) (xs : List AV) (x : AV), (bytes r)[j]? = some xs → xs[c]? = some x → x.clean = true ∧ ∃ n, x = .i .u8 n ∧ w'.cell? ⟨g, 0 + (j * Try.prog.cellsOf 5 + c), none⟩ = some (.int .u8 n) := by
      intro j c xs x hx hy
      have hj : j < r.length := by rw [← bytes_len r]; exact (List.getElem?_eq_some_iff.1 hx).1
      simp only [bytes, List.getElem?_map, List.getElem?_eq_getElem hj, Option.map_some, Option.some.injEq] at hx
      subst hx
      cases c with
      | succ c => simp at hy
      | zero =>
        obtain rfl : AV.i .u8 r[j] = x := by simpa using hy
        obtain ⟨ad, had, hcell⟩ := hC.2.2 (by omega)
        obtain rfl := Option.some.inj had
        obtain ⟨cc, hcl, hcK, hcc⟩ := hcell j _ (List.getElem?_eq_getElem hj)
        have hcc0 : cc = [Value.int .u8 r[j]] := hcK
        subst hcc0
        have := hcc 0 _ rfl
        rw [add_addr2 rfl] at this
        rw [cells5b]
        exact ⟨rfl, _, rfl, this⟩
    have := Rep.lst (P := Try.prog) (F := F) (β := β) (U := U) (w := w') 0 0 5 (bytes r) g 0 cap (fun j c => (w'.cell? ⟨g, 0 + (j * Try.prog.cellsOf 5 + c), none⟩).getD undef) (by rw [bytes_len]; exact hcap)
      (fun xs hxs => by
        rw [cells5b]
        simp only [bytes, List.mem_map] at hxs
        obtain ⟨y, _, rfl⟩ := hxs
        rfl)
      (fun j c xs x hx hy => by
        obtain ⟨h1, n, rfl, h2⟩ := key j c xs x hx hy
        exact ⟨h1, by rw [h2]; rfl, fun hh => by have := hF _ _ hh; omega⟩)
      (fun j c xs x hx hy => by
        obtain ⟨h1, n, rfl, h2⟩ := key j c xs x hx hy
        rw [h2]; exact .i _ _)
    rw [bytes_len] at this
    exact this
def AV.t0 : AV → Prop
  | .lst t _ _ _ => t = 0
  | _ => True
theorem retOf {res : TV} {v : Value} (hF : ∀ b c, F b c → b < w.heap.size) (hb : Below w.heap.size w w') (hr : RepT (fun a u => Rep Try.prog F β U w' a u ∧ a.t0) res v) :
    Ret Try.prog F β U w [] { res := res } F 0 (fun _ => none) v w' where
  os := hb.os
  tape := hb.tape
  out := hb.output
  size := hb.size
  block := fun k hk _ => hb.block k hk
  len := rfl
  mem := fun j p cs hp _ => by simp at hp
  F1 := fun _ _ h => h
  F2 := fun _ _ h => .inl h
  F3 := fun b c h => Nat.lt_of_lt_of_le (hF b c h) hb.size
  new := fun cs h => by cases h
  tk := fun t v h => by cases h
  tok := fun t v blk hi top h _ => by cases h
  tin := fun t t' v v' blk hi top hi' top' h _ _ _ => by cases h
  res := by
    refine RepT.mono (fun a u h => ⟨by simpa using h.1, ?_⟩) hr
    cases a with
    | lst t v e es =>
      have h0 : t = 0 := h.2
      subst h0
      unfold Tip; cases u <;> first | exact .inl rfl | trivial
    | _ => unfold Tip; trivial
theorem val1 {x : PV} {vals : Array Value} {R : PV → Value → Prop} (hlen : [x].length = vals.size) (h : ∀ (j : Nat) (y : PV) (u : Value), [x][j]? = some y → vals[j]? = some u → R y u) : ∃ u, vals = #[u] ∧ R x u := by
  refine ⟨vals[0]'(by simp at hlen; omega), ?_, h 0 x _ rfl (Array.getElem?_eq_getElem _)⟩
  apply Array.ext
  · simp at hlen; simp; omega
  · intro i h1 h2; simp at h2; subst h2; rfl
theorem val2 {x y : PV} {vals : Array Value} {R : PV → Value → Prop} (hlen : [x, y].length = vals.size) (h : ∀ (j : Nat) (z : PV) (u : Value), [x, y][j]? = some z → vals[j]? = some u → R z u) : ∃ u v, vals = #[u, v] ∧ R x u ∧ R y v := by
  refine ⟨vals[0]'(by simp at hlen; omega), vals[1]'(by simp at hlen; omega), ?_, h 0 x _ rfl (Array.getElem?_eq_getElem _), h 1 y _ rfl (Array.getElem?_eq_getElem _)⟩
  apply Array.ext
  · simp at hlen; simp; omega
  · intro i h1 h2
    simp at h2
    rcases (by omega : i = 0 ∨ i = 1) with rfl | rfl <;> rfl
end
theorem pvB {F : Nat → Nat → Prop} {β : Nat → Nat} {U : Nat → Bool} {w : World} {l : List Int} {v : Value} (h : Rep Try.prog F β U w (.lst 0 0 5 (bytes l)) v) : RepP (fun a u => Rep Try.prog F β U w a u ∧ a.t0) (byts l) v := RepP.one h.oneCell ⟨h, rfl⟩
theorem pvI {F : Nat → Nat → Prop} {β : Nat → Nat} {U : Nat → Bool} {w : World} (n : Int) : RepP (fun a u => Rep Try.prog F β U w a u ∧ a.t0) (int n) (.int .i64 n) := RepP.one rfl ⟨.i _ _, trivial⟩
theorem pvO {F : Nat → Nat → Prop} {β : Nat → Nat} {U : Nat → Bool} {w : World} (b : Bool) : RepP (fun a u => Rep Try.prog F β U w a u ∧ a.t0) (bool b) (.bool b) := RepP.one rfl ⟨.b _, trivial⟩
theorem tup2 {R : AV → Value → Prop} {x y : PV} {u v : Value} (h1 : RepP R x u) (h2 : RepP R y v) : RepT R (.tup [x, y]) (.tuple #[u, v]) := by
  refine ⟨_, rfl, rfl, fun j z t hz ht => ?_⟩
  match j with
  | 0 => obtain rfl : x = z := by simpa using hz
         obtain rfl : u = t := by simpa using ht
         exact h1
  | 1 => obtain rfl : y = z := by simpa using hz
         obtain rfl : v = t := by simpa using ht
         exact h2
  | j + 2 => simp at hz
theorem tup4 {R : AV → Value → Prop} {x y z q : PV} {u v s t : Value} (h1 : RepP R x u) (h2 : RepP R y v) (h3 : RepP R z s) (h4 : RepP R q t) : RepT R (.tup [x, y, z, q]) (.tuple #[u, v, s, t]) := by
  refine ⟨_, rfl, rfl, fun j c d hc hd => ?_⟩
  match j with
  | 0 => obtain rfl : x = c := by simpa using hc
         obtain rfl : u = d := by simpa using hd
         exact h1
  | 1 => obtain rfl : y = c := by simpa using hc
         obtain rfl : v = d := by simpa using hd
         exact h2
  | 2 => obtain rfl : z = c := by simpa using hc
         obtain rfl : s = d := by simpa using hd
         exact h3
  | 3 => obtain rfl : q = c := by simpa using hc
         obtain rfl : t = d := by simpa using hd
         exact h4
  | j + 4 => simp at hc
theorem draw_e {l : List Int} (hb : Byt l) (hl : l.length ≤ 9223372036854775807) : Fx 4 [byts l] fun v => ∃ (key : Int) (d : List Int) (i j : Int), (1 ≤ key ∧ key ≤ 65520) ∧ Byt d ∧ (21 ≤ d.length ∧ d.length ≤ 40) ∧ (0 ≤ i ∧ i ≤ 1) ∧ (0 ≤ j ∧ j ≤ 1) ∧ v = .tup [int key, byts d, int i, int j] := by
  refine ⟨Try.call4, fun F β U w vals hF hU0 hbox hinj hlen hrep => ?_⟩
  obtain ⟨u, rfl, h1⟩ := val1 hlen hrep
  obtain ⟨A, c, rfl, hc, hC⟩ := argC (RepP.one_inv h1).2 hl
  obtain ⟨k, ⟨key, d, i, j⟩, hk, p1, p2, p3, p4, p5⟩ := rounds (drawn_x hb)
  refine (spec_DrawMixed.calls k A c l key d i j w hC hc hk).mono ?_
  rintro e w' ⟨v, rfl, hR, hB⟩
  exact ⟨_, _, F, 0, fun _ => none, rfl, ⟨_, ⟨key, d, i, j, p1, p2, p3, p4, p5, rfl⟩, rfl⟩, retOf hF hB (tup4 (pvI _) (pvB (resB hF hR)) (pvI _) (pvI _))⟩
theorem isealed_e (key : Int) {l : List Int} (hb : Byt l) (hl : l.length ≤ 9223372036854775807) : Pure 5 [int key, byts l] (.pv (byts (SealedR key l))) := by
  refine ⟨Try.call5, fun F β U w vals hF hU0 hbox hinj hlen hrep => ?_⟩
  obtain ⟨u, v, rfl, h1, h2⟩ := val2 hlen hrep
  have h1 := (RepP.one_inv h1).2
  cases h1
  obtain ⟨A, c, rfl, hV⟩ := argV (RepP.one_inv h2).2 hl
  obtain ⟨k, r, hk, rfl⟩ := rounds (impl_sealed_x key hb)
  refine (impl_Sealed.calls k key (fun _ => True) A c l _ w hV hk).mono ?_
  rintro e w' ⟨v, rfl, hR, hB⟩
  exact ⟨_, _, F, 0, fun _ => none, rfl, rfl, retOf hF hB (pvB (resB hF hR))⟩
theorem ssealed_e (key : Int) {l : List Int} (hb : Byt l) (hl : l.length ≤ 9223372036854775807) : Pure 7 [int key, byts l] (.pv (byts (SealedR key l))) := by
  refine ⟨Try.call7, fun F β U w vals hF hU0 hbox hinj hlen hrep => ?_⟩
  obtain ⟨u, v, rfl, h1, h2⟩ := val2 hlen hrep
  have h1 := (RepP.one_inv h1).2
  cases h1
  obtain ⟨A, c, rfl, hc, hC⟩ := argC (RepP.one_inv h2).2 hl
  obtain ⟨k, r, hk, rfl⟩ := rounds (spec_sealed_x key hb)
  refine (spec_Sealed.calls k key A c l _ w hC hc hk).mono ?_
  rintro e w' ⟨v, rfl, hR, hB⟩
  exact ⟨_, _, F, 0, fun _ => none, rfl, rfl, retOf hF hB (pvB (resB hF hR))⟩
theorem opened_e (key : Int) {b : List Int} (hb : Byt b) (hl : b.length ≤ 2000000) : Pure 8 [int key, byts b] (.tup [byts (OpenedR key b).1, bool (OpenedR key b).2]) := by
  refine ⟨Try.call8, fun F β U w vals hF hU0 hbox hinj hlen hrep => ?_⟩
  obtain ⟨u, v, rfl, h1, h2⟩ := val2 hlen hrep
  have h1 := (RepP.one_inv h1).2
  cases h1
  obtain ⟨A, c, rfl, hV⟩ := argV (RepP.one_inv h2).2 (by omega)
  obtain ⟨k, r, hk, rfl⟩ := rounds (impl_opened_x key hb (by omega))
  refine (impl_Opened.calls k key (fun _ => True) A c b _ _ w hV hk).mono ?_
  rintro e w' ⟨v, rfl, hR, hB⟩
  exact ⟨_, _, F, 0, fun _ => none, rfl, rfl, retOf hF hB (tup2 (pvB (resB hF hR)) (pvO _))⟩
theorem same_e (l : List Int) (hl : l.length ≤ 9223372036854775807) : Pure 6 [byts l, byts l] (.pv (bool true)) := by
  refine ⟨Try.call6, fun F β U w vals hF hU0 hbox hinj hlen hrep => ?_⟩
  obtain ⟨u, v, rfl, h1, h2⟩ := val2 hlen hrep
  obtain ⟨A, c, rfl, hc, hC⟩ := argC (RepP.one_inv h1).2 hl
  obtain ⟨A', c', rfl, hc', hC'⟩ := argC (RepP.one_inv h2).2 hl
  refine (laws_sameBytes.calls A c l A' c' l true w hC hc hC' hc' (same_x l)).mono ?_
  rintro e w' ⟨rfl, hB⟩
  exact ⟨_, _, F, 0, fun _ => none, rfl, rfl, retOf hF hB.below (pvO _)⟩
theorem begins_e (l : List Int) (j : Nat) (hl : l.length ≤ 9223372036854775807) : Pure 9 [byts (l.take j), byts l] (.pv (bool true)) := by
  refine ⟨Try.call9, fun F β U w vals hF hU0 hbox hinj hlen hrep => ?_⟩
  obtain ⟨u, v, rfl, h1, h2⟩ := val2 hlen hrep
  obtain ⟨A, c, rfl, hc, hC⟩ := argC (RepP.one_inv h1).2 (by rw [List.length_take]; omega)
  obtain ⟨A', c', rfl, hc', hC'⟩ := argC (RepP.one_inv h2).2 hl
  refine (laws_begins.calls A c _ A' c' l true w hC hc hC' hc' (begins_x l j)).mono ?_
  rintro e w' ⟨rfl, hB⟩
  exact ⟨_, _, F, 0, fun _ => none, rfl, rfl, retOf hF hB.below (pvO _)⟩
theorem alive_e : Pure 10 [] (.pv (bool true)) := by
  refine ⟨Try.call10, fun F β U w vals hF hU0 hbox hinj hlen hrep => ?_⟩
  have : vals = #[] := by simp at hlen; exact Array.eq_empty_of_size_eq_zero hlen.symm
  subst this
  obtain ⟨k, r, hk, rfl⟩ := rounds alive_x
  refine (laws_alive.calls k true w hk).mono ?_
  rintro e w' ⟨rfl, hB⟩
  exact ⟨_, _, F, 0, fun _ => none, rfl, rfl, retOf hF hB (pvO _)⟩
end Go.Proofs.Ytenphmeikbjimaa.Sx
