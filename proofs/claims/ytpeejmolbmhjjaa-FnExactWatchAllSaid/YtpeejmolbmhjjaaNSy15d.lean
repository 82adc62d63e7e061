/- Regions whose order Go leaves open: the law; there is no condition beyond those each statement names. -/
import Derived.Test.YtpeejmolbmhjjaaNSy15c
namespace Go.Proofs.Ytpeejmolbmhjjaa.Sx
set_option linter.unusedSimpArgs false
set_option linter.unusedVariables false
open Go
section
variable {P : Program} {T : TT} {all : List Oper} {fps : List (Nat × List Nat)}
theorem indep_apart {p q : Nat} {x y : Oper} (h : indepO all fps p q x y = true) : isCallF x = false ∧ (isApp y = true → setsCu x = false) ∧ Apart all fps p q x y ∧ Apart all fps q p y x ∧ (∀ k, x.dst = some k → y.dst ≠ some k) := by
  simp only [indepO, Bool.and_eq_true, Bool.not_eq_true', Bool.or_eq_true] at h
  obtain ⟨⟨⟨h1, h2⟩, h3⟩, h4⟩ := h
  have hB : (isWr x || isWr y) = true → ∀ b ∈ boxesOf x fps p, b ∉ boxesOf y fps q := fun hw b hb hb' => by
    rcases h4 with h4 | h4
    · rw [hw] at h4; cases h4
    · have := List.all_eq_true.1 h4 b hb
      rw [Bool.not_eq_true'] at this
      rw [mem?_iff.2 hb'] at this; cases this
  have hB' : (isWr y || isWr x) = true → ∀ b ∈ boxesOf y fps q, b ∉ boxesOf x fps p := fun hw b hb hb' => hB (by rw [Bool.or_comm]; exact hw) b hb' hb
  have nm : ∀ {l : List Nat} {k : Nat}, mem? l k = false → k ∉ l := fun hm hk => by rw [mem?_iff.2 hk] at hm; cases hm
  have ne : ∀ {a b : Nat}, Nat.beq a b = false → a ≠ b := fun hb e => by subst e; simp at hb
  refine ⟨h1, fun hy => ?_, ?_⟩
  · cases hs : setsCu x with
    | false => rfl
    | true => rw [hs, hy] at h2; cases h2
  · cases hx : x.dst with
    | some d =>
      cases hy : y.dst with
      | some e =>
        simp only [hx, hy, Bool.and_eq_true, Bool.not_eq_true', Bool.or_eq_false_iff] at h3
        obtain ⟨⟨⟨g1, g2⟩, g3⟩, g4, g5⟩ := h3
        refine ⟨⟨fun k hk => ?_, ?_, fun _ => ?_, hB⟩, ⟨fun k hk => ?_, ?_, fun _ => ?_, hB'⟩, fun k hk hk' => ?_⟩
        · rw [hx] at hk; obtain rfl := Option.some.inj hk; exact nm g2
        · rw [hx, hy]; exact ne g1
        · rw [hx]; exact ne g4
        · rw [hy] at hk; obtain rfl := Option.some.inj hk; exact nm g3
        · rw [hx, hy]; exact (ne g1).symm
        · rw [hy]; exact ne g5
        · obtain rfl := Option.some.inj hk; obtain rfl := Option.some.inj hk'; exact ne g1 rfl
      | none =>
        simp only [hx, hy, Bool.and_eq_true, Bool.not_eq_true'] at h3
        obtain ⟨⟨⟨⟨g1, g2⟩, g3⟩, g4⟩, g5⟩ := h3
        refine ⟨⟨fun k hk => ?_, ?_, fun _ => ?_, hB⟩, ⟨fun k hk => ?_, ?_, fun hh => ?_, hB'⟩, fun k hk hk' => (by cases hk')⟩
        · rw [hx] at hk; obtain rfl := Option.some.inj hk; exact nm g1
        · rw [hx, hy]; exact ne g5
        · rw [hx]; exact ne g5
        · rw [hy] at hk; cases hk
        · rw [hx, hy]; exact (ne g5).symm
        · rw [g2, g4] at hh; cases hh
    | none =>
      cases hy : y.dst with
      | some e =>
        simp only [hx, hy, Bool.and_eq_true, Bool.not_eq_true'] at h3
        obtain ⟨⟨⟨⟨g1, g2⟩, g3⟩, g4⟩, g5⟩ := h3
        refine ⟨⟨fun k hk => ?_, ?_, fun hh => ?_, hB⟩, ⟨fun k hk => ?_, ?_, fun _ => ?_, hB'⟩, fun k hk => (by cases hk)⟩
        · rw [hx] at hk; cases hk
        · rw [hx, hy]; exact (ne g5).symm
        · rw [g2, g4] at hh; cases hh
        · rw [hy] at hk; obtain rfl := Option.some.inj hk; exact nm g1
        · rw [hx, hy]; exact ne g5
        · rw [hy]; exact ne g5
      | none => simp only [hx, hy] at h3; cases h3
/-- An operation that may come up first, taken first. -/
theorem first : ∀ (n : Nat) (p : Nat) (x : Oper) (r : List Nat) (f : FS) (d : Dl) (D : List Nat) (K : FS → Prop), all[p]? = some x → Fp f x (okOf fps p) d → (∀ K' : Dl → Prop, K' d → Stp P T all fps f p x K') →
    AVd P T all fps n r (f.app x.dst d) K → p ∉ r → (∀ q ∈ D, q ∈ r ∧ ∃ y, all[q]? = some y ∧ ∃ e ∈ preds y, e = p ∨ e ∈ D) → (∀ q ∈ r, q ∉ D → indep all fps p q = true) → AVd P T all fps (n + 1) (p :: r) f K := by
  intro n
  induction n with
  | zero =>
    intro p x r f d D K hx hfp hdet hA hp hD hI
    refine ⟨fun h => (by cases h), fun i hi hready => ?_⟩
    obtain ⟨rfl, hK⟩ := hA
    have hi : i = p := by simpa using hi
    subst hi
    refine stp_stepF hx (hdet _ ?_)
    rw [List.erase_cons_head]
    exact ⟨rfl, hK⟩
  | succ n ih =>
    intro p x r f d D K hx hfp hdet hA hp hD hI
    refine ⟨fun h => (by cases h), fun i hi hready => ?_⟩
    by_cases hip : i = p
    · subst hip
      refine stp_stepF hx (hdet _ ?_)
      rw [List.erase_cons_head]
      exact hA
    · have hir : i ∈ r := (List.mem_cons.1 hi).resolve_left hip
      have hiD : i ∉ D := fun hd => by
        obtain ⟨_, y, hy, e, he, h1⟩ := hD i hd
        rcases h1 with rfl | h1
        · exact hready y hy e he (by simp)
        · exact hready y hy e he (List.mem_cons_of_mem _ (hD e h1).1)
      have hind := hI i hir hiD
      obtain ⟨y, hy, hstp⟩ := stepF_stp (hA.2 i hir fun o ho e he hm => hready o ho e he (List.mem_cons_of_mem _ hm))
      have hio : indepO all fps p i x y = true := by unfold indep at hind; rw [hx, hy] at hind; exact hind
      obtain ⟨_, hcu, hapxy, hapyx, hdst⟩ := indep_apart hio
      have hcx : isApp x = true → isApp y = false := fun hax => by
        cases hay : isApp y with
        | false => rfl
        | true =>
          have h1 := hcu hay
          have : setsCu x = true := by
            unfold setsCu
            split
            · rfl
            · rfl
            · rfl
            · rw [hax, Bool.or_true]
          rw [this] at h1; cases h1
      refine stp_stepF hy (Stp.mono (hapxy.under_fp hfp hcu hstp) fun e he hfy => ?_)
      obtain ⟨hK', hfy1⟩ := he
      have hcomm := app_comm hdst hapxy.hxy hapxy.hB hfp hfy1 hcu
      have hrw : (p :: r).erase i = p :: r.erase i := by rw [List.erase_cons_tail (by simpa using fun e : p = i => hip e.symm)]
      rw [hrw]
      refine ih p x (r.erase i) (f.app y.dst e) d D K hx ?_ (fun K' hK'' => (hdet K' hK'').over hapyx hfy (fun hax => by
        cases hay : isApp y with
        | false => rfl
        | true => rw [hcx hax] at hay; cases hay)) ?_ (fun hm => hp (List.mem_of_mem_erase hm)) (fun q hq => ?_) (fun q hq => hI q (List.mem_of_mem_erase hq))
      · -- what it may turn, still
        refine ⟨hfp.mmk, hfp.mm0, hfp.nbk, fun z hz => ?_⟩
        rcases hfp.cuk z hz with ⟨g1, g2, g3, g4, g5⟩ | ⟨g1, g2⟩
        · refine .inl ⟨g1, g2, ?_, g4, g5⟩
          show ((e.cu.any fun j => Nat.beq z.1 j.1) || f.ut z.1) = false
          rw [g3, Bool.or_false, List.any_eq_false]
          intro v hv hb
          have hb := Nat.eq_of_beq_eq_true hb
          rcases hfy.cuk v hv with ⟨k1, k2, _⟩ | ⟨k1, k2⟩
          · rw [← hb] at k1 k2
            exact hapxy.hxy (sixteen2 g1 g2 k1 k2)
          · rw [← hb, g3] at k2; cases k2
        · exact .inr ⟨g1, by show (_ || f.ut z.1) = true; rw [g2, Bool.or_true]⟩
      · rw [← hcomm]; exact hK'
      · obtain ⟨h1, h2⟩ := hD q hq
        exact ⟨(List.mem_erase_of_ne (fun e : q = i => hiD (by rw [← e]; exact hq))).2 h1, h2⟩
theorem stepF_mono {f : FS} {i : Nat} {K K' : FS → Prop} (h : stepF P T all fps f i K) (hm : ∀ f', K f' → K' f') : stepF P T all fps f i K' := by
  obtain ⟨o, ho, hs⟩ := stepF_stp h
  exact stp_stepF ho (hs.mono fun d hd _ => hm _ hd)
theorem seqF_mono : ∀ {l : List Nat} {f : FS} {K K' : FS → Prop}, seqF P T all fps l f K → (∀ f', K f' → K' f') → seqF P T all fps l f K'
  | [], _, _, _, h, hm => hm _ h
  | _ :: _, _, _, _, h, hm => stepF_mono h fun _ h' => seqF_mono h' hm
theorem scan_sets : ∀ (r acc : List Nat) (p : Nat), scan all fps p r acc = true → ∃ D : List Nat, (∀ q ∈ D, q ∈ r ∧ ∃ y, all[q]? = some y ∧ ∃ e ∈ preds y, e ∈ acc ∨ e ∈ D) ∧ ∀ q ∈ r, q ∉ D → indep all fps p q = true
  | [], acc, p, _ => ⟨[], fun q hq => by (cases hq), fun q hq => by (cases hq)⟩
  | q :: r, acc, p, h => by
    simp only [scan, Bool.or_eq_true, Bool.and_eq_true] at h
    rcases h with ⟨h1, h2⟩ | ⟨h1, h2⟩
    · obtain ⟨D, hD, hI⟩ := scan_sets r (q :: acc) p h2
      refine ⟨q :: D, fun z hz => ?_, fun z hz hzD => ?_⟩
      · rcases List.mem_cons.1 hz with rfl | hz
        · unfold waits at h1
          cases hy : all[z]? with
          | none => rw [hy] at h1; cases h1
          | some y =>
            rw [hy] at h1
            obtain ⟨e, he, hm⟩ := List.any_eq_true.1 h1
            exact ⟨by simp, y, rfl, e, he, .inl (mem?_iff.1 hm)⟩
        · obtain ⟨g1, y, g2, e, g3, g4⟩ := hD z hz
          refine ⟨List.mem_cons_of_mem _ g1, y, g2, e, g3, ?_⟩
          rcases g4 with g4 | g4
          · rcases List.mem_cons.1 g4 with rfl | g4
            · exact .inr (by simp)
            · exact .inl g4
          · exact .inr (List.mem_cons_of_mem _ g4)
      · rcases List.mem_cons.1 hz with rfl | hz
        · exact absurd (by simp) hzD
        · exact hI z hz fun hh => hzD (List.mem_cons_of_mem _ hh)
    · obtain ⟨D, hD, hI⟩ := scan_sets r acc p h2
      refine ⟨D, fun z hz => ?_, fun z hz hzD => ?_⟩
      · obtain ⟨g1, g2⟩ := hD z hz; exact ⟨List.mem_cons_of_mem _ g1, g2⟩
      · rcases List.mem_cons.1 hz with rfl | hz
        · exact h1
        · exact hI z hz hzD
theorem chk_any : ∀ (π : List Nat) (f : FS) (K : FS → Prop), chk all fps π = true → seqF P T all fps π f K → AVd P T all fps π.length π f K
  | [], f, K, _, h => ⟨rfl, h⟩
  | p :: r, f, K, hc, h => by
    simp only [chk, Bool.and_eq_true, Bool.not_eq_true'] at hc
    obtain ⟨⟨h1, h2⟩, h3⟩ := hc
    have hp : p ∉ r := fun hm => by rw [mem?_iff.2 hm] at h2; cases h2
    obtain ⟨x, hx, hs⟩ := stepF_stp h
    obtain ⟨D, hD, hI⟩ := scan_sets r [p] p h1
    have hD' : ∀ q ∈ D, q ∈ r ∧ ∃ y, all[q]? = some y ∧ ∃ e ∈ preds y, e = p ∨ e ∈ D := fun q hq => by
      obtain ⟨g1, y, g2, e, g3, g4⟩ := hD q hq
      exact ⟨g1, y, g2, e, g3, g4.imp (fun g => by simpa using g) id⟩
    cases hcall : isCallF x with
    | false =>
      obtain ⟨d, hd, hfp, hdet⟩ := hs.det hcall
      exact first r.length p x r f d D K hx hfp hdet (chk_any r _ K h3 hd) hp hD' hI
    | true =>
      refine ⟨fun h => (by cases h), fun i hi hready => ?_⟩
      by_cases hip : i = p
      · subst hip
        rw [List.erase_cons_head]
        exact stp_stepF hx (hs.mono fun d hd _ => chk_any r _ K h3 hd)
      · exfalso
        have hir : i ∈ r := (List.mem_cons.1 hi).resolve_left hip
        by_cases hiD : i ∈ D
        · obtain ⟨_, y, hy, e, he, h1⟩ := hD' i hiD
          rcases h1 with rfl | h1
          · exact hready y hy e he (by simp)
          · exact hready y hy e he (List.mem_cons_of_mem _ (hD' e h1).1)
        · have hind := hI i hir hiD
          unfold indep at hind
          rw [hx] at hind
          cases hy : all[i]? with
          | none => rw [hy] at hind; cases hind
          | some y =>
            rw [hy] at hind
            have := (indep_apart hind).1
            rw [hcall] at this; cases this
/-- The walk over the lists is the walk over the functions. -/
theorem vcOps_seq (K : St → Prop) : ∀ (π : List Nat) (s : St), (∀ i ∈ π, i < all.length) → vcOps P T all (π.map fun i => (all.getD i default, okOf fps i)) s K → seqF P T all fps π s.fs fun f => ∃ s', f = s'.fs ∧ K s'
  | [], s, _, h => ⟨s, rfl, h⟩
  | i :: r, s, hl, h => by
    have hi := hl i (by simp)
    have ho : all[i]? = some (all.getD i default) := by rw [List.getElem?_eq_getElem hi]; simp [List.getD, List.getElem?_eq_getElem hi]
    have ih := vcOps_seq K r
    have hl' : ∀ j ∈ r, j < all.length := fun j hj => hl j (List.mem_cons_of_mem _ hj)
    have h' : vcOps P T all ((all.getD i default, okOf fps i) :: r.map fun i => (all.getD i default, okOf fps i)) s K := h
    generalize all.getD i default = o at h' ho
    unfold vcOps at h'
    simp only [forceD_eq, appS_eq, setK_eq] at h'
    refine stp_stepF ho ?_
    have go : ∀ s' : St, s'.fs = s.fs → ∀ d, vcOps P T all (r.map fun i => (all.getD i default, okOf fps i)) (s'.app o.dst d) K → seqF P T all fps r (s.fs.app o.dst d) fun f => ∃ s', f = s'.fs ∧ K s' := fun s' he d hd => by
      have := ih _ hl' hd
      rw [St.fs_app, he] at this
      exact this
    split at h'
    · rename_i hg
      exact .run (.inl hg) (evOp_mono h' fun d hd _ => go s rfl d hd)
    · rename_i j want hg
      split at h'
      · exact h'.elim
      · rename_i t ht
        rcases guardK_inv h' with ⟨b, hb, h'⟩ | ⟨hb, h'⟩
        case inr => exact .skip j want _ t hg ht hb (.inl rfl) (go s rfl _ h')
        have hs : ∀ b', b' = b → (s.setB t b').fs = s.fs := fun b' e => by subst e; exact St.fs_setB s t b' hb
        cases b with
        | true =>
          cases want with
          | true => simp only at h'; rw [hs true rfl] at h'; exact .run (.inr ⟨j, true, t, hg, ht, hb⟩) (evOp_mono h' fun d hd _ => go _ (hs true rfl) d hd)
          | false => exact .skip j false _ t hg ht hb (.inr ⟨true, rfl, by decide⟩) (go _ (hs true rfl) _ h')
        | false =>
          cases want with
          | true => exact .skip j true _ t hg ht hb (.inr ⟨false, rfl, by decide⟩) (go _ (hs false rfl) _ h')
          | false => simp only at h'; rw [hs false rfl] at h'; exact .run (.inr ⟨j, false, t, hg, ht, hb⟩) (evOp_mono h' fun d hd _ => go _ (hs false rfl) d hd)
theorem edges_lt : ∀ (l : List Oper) (n : Nat), edgesOk n l = true → ∀ (i : Nat) (o : Oper), l[i]? = some o → ∀ e ∈ preds o, e < n + i
  | [], _, _, i, o, h => by simp at h
  | x :: r, n, h, i, o, hi => by
    simp only [edgesOk, Bool.and_eq_true] at h
    cases i with
    | zero =>
      simp at hi
      subst hi
      intro e he
      exact Nat.lt_of_succ_le (Nat.le_of_ble_eq_true (List.all_eq_true.1 h.1 e he))
    | succ i =>
      intro e he
      have := edges_lt r (n + 1) h.2 i o (by simpa using hi) e he
      omega
variable {G : Gd}
theorem any_sound (hT : TabOk P T) (ops : Array Oper) (Q : Exit → Act → World → Prop) (K : FS → Prop) (hQ : ∀ f C a w, K f → Rel P G f C a w → Q .normal a w) (hn : opsOk G.n ops.toList = true) (he : edgesOk 0 ops.toList = true) :
    ∀ (n : Nat) (pend : List Nat) (listed : Array Bool) (f : FS) (C : Cx) (a : Act) (w : World), pend.length = n → pend.Nodup → (∀ i, listed.getD i true = false ↔ i ∈ pend) → (∀ i ∈ pend, i < ops.size) → listed.size = ops.size →
      AVd P T ops.toList fps n pend f K → Rel P G f C a w → wpAny P .any ops Q n listed a w := by
  intro n
  induction n with
  | zero =>
    intro pend listed f C a w hlen hnd hl hlt hsz hA hR
    obtain ⟨hp, hK⟩ := hA
    subst hp
    refine ⟨?_, hQ f C a w hK hR⟩
    cases hr : Region.ready .any ops listed with
    | nil => rfl
    | cons i r =>
      have : i ∈ Region.ready .any ops listed := by rw [hr]; simp
      have := (hl i).1 (mem_ready.1 this).1
      cases this
  | succ n ih =>
    intro pend listed f C a w hlen hnd hl hlt hsz hA hR
    refine ⟨fun hready => ?_, fun i hi => ?_⟩
    · -- something may come up, as long as something has not
      exfalso
      have hne : pend ≠ [] := fun e => by rw [e] at hlen; cases hlen
      obtain ⟨m, hm, hmin⟩ : ∃ m ∈ pend, ∀ k ∈ pend, m ≤ k := by
        cases pend with
        | nil => exact absurd rfl hne
        | cons x xs =>
          clear hA hl hlt hlen hnd hready hne
          induction xs generalizing x with
          | nil => exact ⟨x, by simp, fun k hk => by simp at hk; omega⟩
          | cons y ys ihy =>
            obtain ⟨m, h1, h2⟩ := ihy (min x y)
            rcases List.mem_cons.1 h1 with h1 | h1
            · by_cases hxy : x ≤ y
              · exact ⟨x, by simp, fun k hk => by
                  simp only [List.mem_cons] at hk
                  rcases hk with rfl | rfl | hk
                  · omega
                  · omega
                  · have := h2 k (by simp [hk]); omega⟩
              · exact ⟨y, by simp, fun k hk => by
                  simp only [List.mem_cons] at hk
                  rcases hk with rfl | rfl | hk
                  · omega
                  · omega
                  · have := h2 k (by simp [hk]); omega⟩
            · exact ⟨m, by simp [h1], fun k hk => by
                have h3 := h2 (min x y) (by simp)
                simp only [List.mem_cons] at hk
                rcases hk with rfl | rfl | hk
                · omega
                · omega
                · exact h2 k (by simp [hk])⟩
      have hms := hlt m hm
      have hmr : m ∈ Region.ready .any ops listed := by
        refine mem_ready.2 ⟨(hl m).2 hm, ops[m], Array.getElem?_eq_getElem hms, fun e he' hb => ?_⟩
        have hep : e.on ∈ preds ops[m] := List.mem_map.2 ⟨e, List.mem_filter.2 ⟨by simpa using he', hb⟩, rfl⟩
        have hlt' := edges_lt ops.toList 0 he m ops[m] (by simp [Array.getElem?_eq_getElem hms]) e.on hep
        have hnp : e.on ∉ pend := fun hh => by have := hmin _ hh; omega
        have h1 : e.on < listed.size := by rw [hsz]; omega
        have h2 : listed.getD e.on true ≠ false := fun hh => hnp ((hl e.on).1 hh)
        have h3 : listed[e.on]? = some listed[e.on] := Array.getElem?_eq_getElem h1
        simp only [Array.getD_eq_getD_getElem?, h3, Option.getD_some] at h2 ⊢
        cases hv : listed[e.on] with
        | true => rfl
        | false => exact absurd hv h2
      rw [hready] at hmr; cases hmr
    · obtain ⟨h1, o, ho, hall⟩ := mem_ready.1 hi
      have hip : i ∈ pend := (hl i).1 h1
      have ho' : ops.toList[i]? = some o := by rw [Array.getElem?_toList]; exact ho
      have hst := hA.2 i hip fun o2 ho2 e hep hm => by
        rw [ho'] at ho2
        obtain rfl := Option.some.inj ho2
        obtain ⟨e2, he2, rfl⟩ := List.mem_map.1 hep
        obtain ⟨g1, g2⟩ := List.mem_filter.1 he2
        have := hall e2 (by simpa using g1) g2
        have hlt' := hlt _ hm
        have h4 := (hl e2.on).2 hm
        have h3 : listed[e2.on]? = some (listed[e2.on]'(by rw [hsz]; exact hlt')) := Array.getElem?_eq_getElem (by rw [hsz]; exact hlt')
        simp only [Array.getD_eq_getD_getElem?, h3, Option.getD_some] at h4 this
        rw [h4] at this; cases this
      obtain ⟨o2, ho2, hs⟩ := stepF_stp hst
      rw [ho'] at ho2
      obtain rfl := Option.some.inj ho2
      have hd : ∀ d, o.dst = some d → d < G.n := fun d hd => by
        have h1 := List.all_eq_true.1 hn o (List.mem_of_getElem? ho')
        rw [hd] at h1
        exact Nat.lt_of_succ_le (Nat.le_of_ble_eq_true h1)
      have next : ∀ f' C' a' w', AVd P T ops.toList fps n (pend.erase i) f' K → Rel P G f' C' a' w' → wpAny P .any ops Q n (listed.setIfInBounds i true) a' w' := fun f' C' a' w' hA' hR' => by
        refine ih (pend.erase i) _ f' C' a' w' (by rw [List.length_erase_of_mem hip, hlen]; rfl) (hnd.erase i) (fun k => ?_) (fun k hk => hlt k (List.mem_of_mem_erase hk)) (by simp [hsz]) hA' hR'
        by_cases hk : k = i
        · subst hk
          have : k < listed.size := by rw [hsz]; exact hlt k hip
          simp [this, hnd.not_mem_erase]
        · rw [getD_set_ne true (Ne.symm hk), hl k]
          exact (List.mem_erase_of_ne hk).symm
      unfold wpOp
      rw [ho]
      show if Region.wanted o (yielded ops a.tmps) then _ else _
      cases hs with
      | run hg hev =>
        have hw : Region.wanted o (yielded ops a.tmps) = true := by
          rcases hg with hg | ⟨j, want, t, hg, ht, hb⟩
          · exact wanted_none hg
          · rw [wanted_some (ops := ops) hR hg ht hb]; cases want <;> rfl
        rw [if_pos hw]
        refine .inl (Oper.wp_mono ?_ (ev_sound (Q := Q) hT hR hd hev))
        rintro a' w' ⟨d, C', hKd, hR'⟩
        exact next _ C' a' w' hKd hR'
      | skip j want b t hg ht hb hne hK =>
        have hw : Region.wanted o (yielded ops a.tmps) = false := by
          rcases hne with rfl | ⟨b, rfl, hne⟩
          · exact wanted_void (ops := ops) hR hg ht hb
          · rw [wanted_some (ops := ops) hR hg ht hb]
            cases b <;> cases want <;> first | rfl | exact absurd rfl hne
        rw [if_neg (by rw [hw]; decide)]
        refine next _ C _ w hK ?_
        rw [app_val]
        exact hR.put o.dst hd _ _ repVoid
theorem draw_sound (hT : TabOk P T) (hm : P.follows .mixedOrders = true) (ops : Array Oper) (id : Nat) (Q : Exit → Act → World → Prop) (K : St → Prop) (hQ : ∀ s C a w, K s → Rel P G s.fs C a w → Q .normal a w)
    (π : List Nat) (fps : List (Nat × List Nat)) (hd : drawOk ops.toList π fps = true) (s : St) (C : Cx) (a : Act) (w : World) (hn : opsOk G.n ops.toList = true)
    (hK : vcOps P T ops.toList (π.map fun i => (ops.toList.getD i default, okOf fps i)) s K) (h : Rel P G s.fs C a w) : (Code.region id ops true).wp P Q a w := by
  simp only [drawOk, Bool.and_eq_true] at hd
  obtain ⟨⟨⟨⟨h1, h2⟩, h3⟩, h4⟩, h5⟩ := hd
  have hlen : π.length = ops.size := by have := Nat.eq_of_beq_eq_true h1; simpa using this
  have hlt : ∀ i ∈ π, i < ops.toList.length := fun i hi => Nat.lt_of_succ_le (Nat.le_of_ble_eq_true (List.all_eq_true.1 h2 i hi))
  have hall : ∀ i, i < ops.size → i ∈ π := fun i hi => mem?_iff.1 (List.all_eq_true.1 h3 i (by simpa using hi))
  have hnd : ∀ (l : List Nat), chk ops.toList fps l = true → l.Nodup := by
    intro l
    induction l with
    | nil => intro _; exact List.nodup_nil
    | cons p r ih =>
      intro hc
      simp only [chk, Bool.and_eq_true, Bool.not_eq_true'] at hc
      exact List.nodup_cons.2 ⟨fun hm => (by have h9 := hc.1.2; rw [mem?_iff.2 hm] at h9; cases h9), ih hc.2⟩
  have hA := chk_any (P := P) (T := T) π s.fs _ h4 (vcOps_seq (fps := fps) K π s hlt hK)
  refine wp_region_any hm ?_
  rw [hlen] at hA
  refine any_sound (G := G) (fps := fps) hT ops Q (fun f => ∃ s', f = s'.fs ∧ K s') (fun f C a w ⟨s', hf, hK'⟩ hR => hQ s' C a w hK' (hf ▸ hR)) hn h5 ops.size π _ s.fs C a _ hlen (hnd π h4) (fun i => ?_) (fun i hi => by simpa using hlt i hi) (by simp) hA h.drew
  by_cases hi : i < ops.size
  · simp [hi, hall i hi]
  · simp [hi]
    intro hm
    have := hlt i hm
    simp at this; omega
end
end Go.Proofs.Ytpeejmolbmhjjaa.Sx
