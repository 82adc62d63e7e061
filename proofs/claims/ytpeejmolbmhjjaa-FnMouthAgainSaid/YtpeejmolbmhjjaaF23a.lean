/- Mouths that are ok, written, told and heard, are ok again; drawn mouths; there is no condition beyond those each statement names. -/
import Derived.Test.YtpeejmolbmhjjaaF22
import Derived.Test.YtpeejmolbmhjjaaF16
namespace Go.Proofs.Ytpeejmolbmhjjaa.Sx
set_option linter.unusedSimpArgs false
set_option linter.unusedVariables false
open Go
set_option maxRecDepth 100000
set_option maxHeartbeats 0
/-- A mouth's cells, its early ranges of a lineage. -/
def Mouth.cl (m : Mouth) (t v : Nat) : List AV := [.i .i64 m.heard, .lst 0 0 5 (bytes m.keep), .i .i64 m.sent, .i .i64 m.room, .lst t v 108 (m.early.map Rng.c)]
theorem Mouth.ok_okAt {m : Mouth} (h : m.ok = true) (j : Nat) (hj : j < m.early.length) : m.okAt j = true := by
  cases hq : m.okAt j with
  | true => rfl
  | false => rw [Mouth.ok_not (Mouth.ok_base h).2.2.2.2 j hj hq] at h; cases h
theorem mouthWrite_l (m : Mouth) (l : List Int) (hok : m.ok = true) (hl : l.length < 1000000) : FnM Try.prog 156 [] [m.v, byts l] fun o =>
    ∃ (m' : Mouth) (n : Int), m'.ok = true ∧ m'.heard = m.heard ∧ o = { tk := [(2, 1)], res := .tup [(true, m'.cl 2 1), int n] } := by
  obtain ⟨b1, b2, b3, b4, b5⟩ := Mouth.ok_base hok
  have hbk := bytes_len m.keep
  have hbl := bytes_len l
  refine fn_of_vc tab_ok mixed Try.call156 Try.func156 rfl [] _ _ (by kernel_rfl) rfl rfl rfl ?_
  (conv => whnf); refine goP (mouthOk_ok' m (by omega) (by omega)) ?_
  rw [hok]
  (conv => whnf); refine ⟨[], _, copyM_lin m (by omega) (by omega), trivial, ?_⟩
  rintro o rfl _
  (conv => whnf); refine goW (by omega) (by omega) ?_
  (conv => whnf)
  refine ⟨[0, 1, 2, 3, 4, 5, 6, 7], [(1, [6]), (7, [6])], (by kernel_rfl), ?_⟩
  (conv => whnf)
  have hmi : minList [32 - (bytes m.keep).length] ((bytes l).length : Int) = mi (bytes l).length (32 - (bytes m.keep).length) := rfl
  have m1 := mi_r (bytes l).length (32 - (bytes m.keep).length)
  rw [hmi]
  generalize mi ((bytes l).length : Int) (32 - (bytes m.keep).length) = n at *
  refine ⟨by omega, by omega, ?_⟩
  rw [bytes_take]
  (conv => whnf)
  refine ⟨by show ((bytes m.keep).length + (bytes _).length) * 1 ≤ 140737488355328; simp; omega, rfl, rfl, ?_⟩
  rw [bytes_app]
  (conv => whnf)
  refine retG [(16 * 13 + 3, 2)] 0 (by rfl) (by rfl) (by rfl) (by rfl) (by rfl) (by rfl) ⟨⟨m.heard, m.keep ++ l.take n.toNat, m.sent, m.room, m.early⟩, n, ?_, rfl, rfl⟩
  refine Mouth.ok_all ⟨b1, by simp; omega, ⟨b3.1, by simp; omega⟩, b4, b5⟩ fun j hj => ?_
  have := Mouth.ok_okAt hok j hj
  simpa [Mouth.okAt] using this
theorem mouthNext_l (m : Mouth) (limit : Int) (hok : m.ok = true) (hl : 1 ≤ limit ∧ limit ≤ 12) : FnM Try.prog 159 [] [m.v, int limit] fun o =>
    ∃ (m' : Mouth) (at_ : Int) (b : List Int), m'.ok = true ∧ m'.heard = m.heard ∧ o = { tk := [(2, 1)], res := .tup [(true, m'.cl 2 1), int at_, byts b] } := by
  obtain ⟨b1, b2, b3, b4, b5⟩ := Mouth.ok_base hok
  have hbk := bytes_len m.keep
  refine fn_of_vc tab_ok mixed Try.call159 Try.func159 rfl [] _ _ (by kernel_rfl) rfl rfl rfl ?_
  (conv => whnf); refine goP (mouthOk_ok' m (by omega) (by omega)) ?_
  rw [hok]
  (conv => whnf); refine goP (l1In_ok _ _ _) ?_
  rw [show inB limit 1 12 = true by simp [inB]; omega]
  (conv => whnf); refine ⟨[], _, copyM_lin m (by omega) (by omega), trivial, ?_⟩
  rintro o rfl _
  (conv => whnf); refine goW (by omega) (by omega) ?_
  (conv => whnf)
  have hmi : minList [m.room, m.sent + limit] ((bytes m.keep).length : Int) = mi (mi (bytes m.keep).length m.room) (m.sent + limit) := rfl
  have m1 := mi_r (bytes m.keep).length m.room
  have m2 := mi_r (mi (bytes m.keep).length m.room) (m.sent + limit)
  rw [hmi]
  generalize mi (mi ((bytes m.keep).length : Int) m.room) (m.sent + limit) = n at *
  split <;> rename_i hq <;> simp only [decide_eq_true_eq, decide_eq_false_iff_not] at hq
  · (conv => whnf)
    refine ⟨[0, 1, 2, 3, 4, 5, 6, 7, 8, 9], [(0, [7]), (2, [2]), (4, [2]), (7, [4])], (by kernel_rfl), ?_⟩
    (conv => whnf)
    refine goW (by omega) (by omega) ?_
    (conv => whnf)
    exact retG [(16 * 20 + 3, 2)] 0 (by rfl) (by rfl) (by rfl) (by rfl) (by rfl) (by rfl) ⟨m, m.heard + m.sent, [], hok, rfl, rfl⟩
  · (conv => whnf)
    refine ⟨[0, 1, 2, 3, 4, 5, 6, 7, 8, 9, 10, 11, 12, 13, 14, 15, 16], [(0, [7]), (2, [2]), (4, [2]), (8, [2]), (10, [2]), (14, [4])], (by kernel_rfl), ?_⟩
    (conv => whnf)
    refine goW (by omega) (by omega) ?_
    (conv => whnf)
    refine ⟨by omega, by omega, by omega, by omega, ?_⟩
    rw [bytes_take, bytes_drop]
    (conv => whnf)
    refine ⟨by show (0 + (bytes _).length) * 1 ≤ 140737488355328; simp; omega, rfl, rfl, ?_⟩
    (conv => whnf)
    refine retG [(16 * 20 + 3, 2)] 0 (by rfl) (by rfl) (by rfl) (by rfl) (by rfl) (by rfl) ⟨⟨m.heard, m.keep, n, m.room, m.early⟩, m.heard + m.sent, (m.keep.take n.toNat).drop m.sent.toNat, ?_, rfl, rfl⟩
    refine Mouth.ok_all ⟨b1, b2, by dsimp only; omega, b4, b5⟩ fun j hj => ?_
    have := Mouth.ok_okAt hok j hj
    simp only [Mouth.okAt, decide_eq_true_eq] at this ⊢
    omega
theorem okAt_snoc {hd st rm : Int} {kp : List Int} {acc : List Rng} {r : Rng} (h : ∀ j, j < acc.length → Mouth.okAt ⟨hd, kp, st, rm, acc⟩ j = true) (c1 : hd < r.fr) (c2 : r.fr < r.to) (c3 : r.to ≤ hd + st)
    (c4 : acc.length = 0 ∨ (rat acc (acc.length - 1)).to < r.fr) : ∀ j, j < (acc ++ [r]).length → Mouth.okAt ⟨hd, kp, st, rm, acc ++ [r]⟩ j = true := by
  intro j hj
  simp only [List.length_append, List.length_singleton] at hj
  by_cases hlt : j < acc.length
  · have h1 := h j hlt
    simp only [Mouth.okAt, decide_eq_true_eq] at h1 ⊢
    have e1 : rat (acc ++ [r]) j = rat acc j := by simp [rat, List.getD, List.getElem?_append_left hlt]
    have e2 : rat (acc ++ [r]) (j - 1) = rat acc (j - 1) := by simp [rat, List.getD, List.getElem?_append_left (show j - 1 < acc.length by omega)]
    rw [e1, e2]; exact h1
  · have hje : j = acc.length := by omega
    subst hje
    simp only [Mouth.okAt, decide_eq_true_eq]
    have e1 : rat (acc ++ [r]) acc.length = r := by simp [rat, List.getD]
    rw [e1]
    refine ⟨c1, c2, c3, ?_⟩
    rcases c4 with c4 | c4
    · exact .inl c4
    · by_cases h0 : acc.length = 0
      · exact .inl h0
      · have e2 : rat (acc ++ [r]) (acc.length - 1) = rat acc (acc.length - 1) := by simp [rat, List.getD, List.getElem?_append_left (show acc.length - 1 < acc.length by omega)]
        rw [e2]; exact .inr c4
theorem rat_of {acc : List Rng} {k : Nat} {r : Rng} (h : (acc.map Rng.c)[k]? = some r.c) : rat acc k = r := by
  have hk : k < acc.length := by simpa using (List.getElem?_eq_some_iff.1 h).1
  rw [rat_get hk] at h
  have := Option.some.inj h
  simp only [Rng.c, List.cons.injEq, AV.i.injEq, true_and, and_true] at this
  exact rng_eq this.1 this.2
theorem mouthHear_l (m : Mouth) (at_ room : Int) (l : List Rng) (hok : m.ok = true) (hr0 : 0 ≤ room ∧ room ≤ 255) (hl : l.length < 1000000000) (ha : at_ ≤ 1000000) (ha0 : -1000000000000 ≤ at_) : FnM Try.prog 158 [] [m.v, int at_, int room, (false, [rgs l])] fun o =>
    ∃ (m' : Mouth) (n : Int) (v : Nat), m'.ok = true ∧ (m'.heard ≤ m.heard ∨ m'.heard ≤ at_) ∧ o = { tk := [(2, v)], res := .tup [(true, m'.cl 2 v), int n] } := by
  obtain ⟨b1, b2, b3, b4, b5⟩ := Mouth.ok_base hok
  have hbk := bytes_len m.keep
  refine fn_of_vc tab_ok mixed Try.call158 Try.func158 rfl [] _ _ (by kernel_rfl) rfl rfl rfl ?_
  (conv => whnf); refine goP (mouthOk_ok' m (by omega) (by omega)) ?_
  rw [hok]
  (conv => whnf); refine goP (l1In_ok _ _ _) ?_
  rw [show inB room 0 255 = true by simp [inB]; omega]
  (conv => whnf); refine ⟨[], _, copyM_lin m (by omega) (by omega), trivial, ?_⟩
  rintro o rfl _
  (conv => whnf); refine goW (by omega) (by omega) ?_
  (conv => whnf)
  by_cases h1 : at_ < m.heard
  · rw [show decide (at_ < m.heard) = true by simpa using h1]
    (conv => whnf)
    exact retG [(16 * 25 + 3, 2)] 0 (by rfl) (by rfl) (by rfl) (by rfl) (by rfl) (by rfl) ⟨m, 0, 1, hok, by omega, rfl⟩
  rw [show decide (at_ < m.heard) = false by simpa using h1]
  (conv => whnf)
  split <;> rename_i hq <;> simp only [decide_eq_true_eq, decide_eq_false_iff_not] at hq
  · (conv => whnf)
    exact retG [(16 * 25 + 3, 2)] 0 (by rfl) (by rfl) (by rfl) (by rfl) (by rfl) (by rfl) ⟨m, 0, 1, hok, by omega, rfl⟩
  (conv => whnf)
  refine ⟨by omega, by omega, ?_⟩
  rw [bytes_drop]
  (conv => whnf)
  refine ⟨by show (0 + (bytes _).length) * 1 ≤ 140737488355328; simp; omega, rfl, rfl, ?_⟩
  (conv => whnf); refine goW (by omega) (by omega) ?_
  (conv => whnf)
  refine ⟨Nat × List Rng × List (List AV) × Nat, fun x => x.2.2.1 = x.2.1.map Rng.c ∧ x.1 ≤ l.length ∧ x.2.1.length ≤ 2 ∧ ∀ j, j < x.2.1.length → Mouth.okAt ⟨at_, m.keep.drop (at_ - m.heard).toNat, m.sent - (at_ - m.heard), room, x.2.1⟩ j = true, fun x => ⟨[(1, .one (.i .i64 at_)), (3, .one (rgs l)), (8, .one (.ptr 8 0)), (10, .one (.ptr 10 0)), (11, .one (.i .i64 (at_ - m.heard))), (12, .one (.i .i64 x.1))], [(8, [.i .i64 0, .lst 1 0 5 [], .i .i64 0, .i .i64 0, .lst 1 0 108 []]), (10, [.i .i64 at_, .lst 0 0 5 (bytes (List.drop (at_ - m.heard).toNat m.keep)), .i .i64 (m.sent - (at_ - m.heard)), .i .i64 room, .lst 912 x.2.2.2 108 x.2.2.1])], [(912, x.2.2.2), (1, 0)], [8,10], [912,1]⟩, fun x => l.length - x.1, (0, [], [], 0), fun x => rfl, ?_, (by refine ⟨?_, ?_, ?_⟩ <;> repeat' (first | exact trivial | refine ⟨rfl, ?_⟩)), ?_⟩
  · exact ⟨rfl, by dsimp only; omega, by decide, fun j hj => by simp at hj⟩
  rintro ⟨k, acc, cells, v⟩ ⟨hc, hk2, ha2, ha3⟩
  dsimp only at hc hk2 ha2 ha3
  subst hc
  have hml : (l.map Rng.c).length = l.length := by simp
  have hal : (acc.map Rng.c).length = acc.length := by simp
  (conv => whnf); split <;> rename_i h4 <;> simp only [decide_eq_true_eq, decide_eq_false_iff_not] at h4
  case h_2 =>
    (conv => whnf)
    split <;> rename_i h5 <;> simp only [decide_eq_true_eq, decide_eq_false_iff_not] at h5
    · exfalso; omega
    · (conv => whnf)
      refine retG [(912, 2)] 0 (by rfl) (by rfl) (by rfl) (by rfl) (by rfl) (by rfl) ⟨⟨at_, m.keep.drop (at_ - m.heard).toNat, m.sent - (at_ - m.heard), room, acc⟩, at_ - m.heard, v, ?_, by dsimp only; omega, rfl⟩
      exact Mouth.ok_all ⟨by dsimp only; omega, by simp; omega, ⟨by dsimp only; omega, by simp; omega⟩, hr0, ha2⟩ ha3
  have hlt : k < (l.map Rng.c).length := by omega
  obtain ⟨r, hr⟩ := map_get Rng.c l k hlt
  (conv => whnf)
  refine goIdx r.c (by omega) rfl (by simpa using hr) ?_
  (conv => whnf); refine goW (by first | omega | (dsimp only; omega)) (by first | omega | (dsimp only; omega)) ?_
  (conv => whnf)
  refine ⟨[0, 1, 2, 3, 4, 5, 6, 7, 8, 9, 10, 11, 12, 13, 14, 15, 16, 17, 18, 19, 20, 21, 22, 23, 24, 25, 26, 27, 28, 29, 30, 31, 32, 33, 34, 35, 36, 37, 38, 39, 40], [(1, [13]), (6, [13]), (8, [13]), (13, [13]), (16, [10]), (22, [10]), (31, [13]), (33, [10])], (by kernel_rfl), ?_⟩
  (conv => whnf)
  repeat' ((conv => whnf); first
      | (refine goW (by first | omega | (dsimp only; omega)) (by first | omega | (dsimp only; omega)) ?_)
      | ((obtain ⟨r2, hr2⟩ := map_get Rng.c acc (acc.length - 1) (by omega); refine goIdx r2.c (by dsimp only; omega) rfl (by dsimp only; rw [show ((((acc.map Rng.c).length : Nat) : Int) - 1).toNat = acc.length - 1 by omega]; exact hr2) ?_))
      | (refine ⟨by show ((acc.map Rng.c).length + 1) * 16 ≤ 140737488355328; omega, rfl, rfl, ?_⟩)
      | (split <;> rename_i hq <;> (try simp only [Bool.not_eq_eq_eq_not, Bool.not_true, Bool.not_false, decide_eq_true_eq, decide_eq_false_iff_not, inB_t, inB_f, bytes_len, List.length_map, Bool.and_eq_true, Bool.and_eq_false_iff, and_true] at hq) <;> (try (exfalso; first | omega | (simp_all; done))))
      | (refine goW (by first | omega | (simp; omega)) (by first | omega | (simp; omega)) ?_)
      | (refine ret1 (by rfl) (by rfl) (outB ?_); first | rfl | grind [inB])
      | (refine ret1 (by rfl) (by rfl) (outI ?_); first | rfl | omega | grind [inB])
      | (refine ret1 (by rfl) (by rfl) (outB ?_)) | (refine ret1 (by rfl) (by rfl) (outI ?_)))
  all_goals (conv => whnf)
  all_goals first
    | (refine ⟨(k + 1, acc ++ [r], acc.map Rng.c ++ [r.c], v + 1), ?_, ⟨⟨rfl, rfl, rfl, rfl, rfl, rfl, trivial⟩, ⟨rfl, rfl, trivial⟩, ⟨rfl, rfl, trivial⟩⟩, ?_⟩; (focus (refine ⟨by simp, by dsimp only; omega, by simp; omega, okAt_snoc ha3 (by omega) (by omega) (by omega) (by first | exact .inl (by omega) | (refine .inr ?_; rw [rat_of hr2]; omega))⟩)); (focus (first | omega | (dsimp only; done) | (dsimp only; omega) | (show _ - _ < _ - _; omega))))
    | (refine ⟨(k + 1, acc, acc.map Rng.c, v), ?_, ⟨⟨rfl, rfl, rfl, rfl, rfl, rfl, trivial⟩, ⟨rfl, rfl, trivial⟩, ⟨rfl, rfl, trivial⟩⟩, ?_⟩; (focus (exact ⟨rfl, by dsimp only; omega, ha2, ha3⟩)); (focus (first | omega | (dsimp only; done) | (dsimp only; omega) | (show _ - _ < _ - _; omega))))
end Go.Proofs.Ytpeejmolbmhjjaa.Sx
