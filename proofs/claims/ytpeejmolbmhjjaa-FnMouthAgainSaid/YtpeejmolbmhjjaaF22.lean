/- Mouths that are written, told and heard come to mouths within bounds; there is no condition beyond those each statement names. -/
import Derived.Test.YtpeejmolbmhjjaaF21
import Derived.Test.YtpeejmolbmhjjaaF18
namespace Go.Proofs.Ytpeejmolbmhjjaa.Sx
set_option linter.unusedSimpArgs false
set_option linter.unusedVariables false
open Go
set_option maxRecDepth 100000
set_option maxHeartbeats 0
/-- A mouth within bounds. -/
structure Mouth.wk (m : Mouth) : Prop where
  heard : 0 ≤ m.heard ∧ m.heard ≤ 1000000
  keep : m.keep.length ≤ 64
  sent : 0 ≤ m.sent ∧ m.sent ≤ 64
  room : -1000 ≤ m.room ∧ m.room ≤ 1000
  early : m.early.length ≤ 3
abbrev zeroM : Mouth := ⟨0, [], 0, 0, []⟩
theorem zeroM_wk : zeroM.wk := ⟨by decide, by decide, by decide, by decide, by decide⟩
theorem Mouth.ok_wk {m : Mouth} (h : m.ok = true) : m.wk := by
  obtain ⟨h1, h2, h3, h4, h5⟩ := Mouth.ok_base h
  exact ⟨h1, by omega, by omega, by omega, by omega⟩
/-- The copy, its lists handed out as one's own. -/
theorem copyM_lin (m : Mouth) (hk : m.keep.length < 1000000000) (he : m.early.length < 1000000000) : FnM Try.prog 184 [] [m.v] fun o =>
    o = { tk := [(2, 1), (3, 1)], res := .pv (true, [.i .i64 m.heard, .lst 2 1 5 (bytes m.keep), .i .i64 m.sent, .i .i64 m.room, .lst 3 1 108 (m.early.map Rng.c)]) } := by
  have hbl := bytes_len m.keep
  refine fn_of_vc tab_ok mixed Try.call184 Try.func184 rfl [] _ _ (by kernel_rfl) rfl rfl rfl ?_
  (conv => whnf)
  refine ⟨by show (0 + (bytes m.keep).length) * 1 ≤ 140737488355328; omega, ?_⟩
  (conv => whnf)
  refine ⟨rfl, rfl, ?_⟩
  (conv => whnf)
  refine ⟨by show (0 + (m.early.map Rng.c).length) * 16 ≤ 140737488355328; simp; omega, ?_⟩
  (conv => whnf)
  refine ⟨rfl, rfl, ?_⟩
  (conv => whnf)
  exact retG [(16 * 5, 2), (16 * 10, 3)] 0 (by rfl) (by rfl) (by rfl) (by rfl) (by rfl) (by rfl) rfl
theorem mouthWrite_r (m : Mouth) (l : List Int) (hk : m.keep.length < 1000000000) (he : m.early.length < 1100000) (hl : l.length < 1000000) : Fx 156 [m.v, byts l] fun v =>
    ∃ (m' : Mouth) (n : Int), m'.wk ∧ (0 ≤ n ∧ n ≤ 32) ∧ v = .tup [m'.v, int n] := by
  have hbk := bytes_len m.keep
  have hbl := bytes_len l
  refine fn_of_vc tab_ok mixed Try.call156 Try.func156 rfl [] _ _ (by kernel_rfl) rfl rfl rfl ?_
  (conv => whnf); refine goP (mouthOk_ok' m hk he) ?_
  (conv => whnf)
  cases hok : m.ok with
  | false =>
    (conv => whnf)
    exact retE (by rfl) (by rfl) ⟨zeroM, 0, zeroM_wk, by decide, rfl⟩
  | true =>
    obtain ⟨b1, b2, b3, b4, b5⟩ := Mouth.ok_base hok
    (conv => whnf); refine ⟨[], _, copyM_lin m hk (by omega), trivial, ?_⟩
    rintro o rfl _
    (conv => whnf); refine goW (by omega) (by omega) ?_
    (conv => whnf)
    refine ⟨[0, 1, 2, 3, 4, 5, 6, 7], [(1, [6]), (7, [6])], (by kernel_rfl), ?_⟩
    (conv => whnf)
    have hmi : minList [32 - (bytes m.keep).length] ((bytes l).length : Int) = mi (bytes l).length (32 - (bytes m.keep).length) := rfl
    have m1 := mi_r (bytes l).length (32 - (bytes m.keep).length)
    rw [hmi]
    generalize mi ((bytes l).length : Int) (32 - (bytes m.keep).length) = n at *
    refine ⟨by omega, by omega, ?_⟩
    rw [bytes_take]
    (conv => whnf)
    refine ⟨by show ((bytes m.keep).length + (bytes _).length) * 1 ≤ 140737488355328; simp; omega, rfl, rfl, ?_⟩
    rw [bytes_app]
    (conv => whnf)
    exact retE (by rfl) (by rfl) ⟨⟨m.heard, m.keep ++ l.take n.toNat, m.sent, m.room, m.early⟩, n, ⟨b1, by simp; omega, by dsimp only; omega, by dsimp only; omega, by dsimp only; omega⟩, by omega, rfl⟩
theorem mouthNext_r (m : Mouth) (limit : Int) (hk : m.keep.length < 1000000000) (he : m.early.length < 1100000) : Fx 159 [m.v, int limit] fun v =>
    ∃ (m' : Mouth) (at_ : Int) (b : List Int), m'.wk ∧ (0 ≤ at_ ∧ at_ ≤ 1000064) ∧ b.length ≤ 12 ∧ (b.length ≠ 0 → m.ok = true ∧ m'.keep = m.keep ∧ m.sent < m'.sent ∧ m'.sent ≤ m.keep.length) ∧ v = .tup [m'.v, int at_, byts b] := by
  have hbk := bytes_len m.keep
  have z : ∀ b : Bool, Fx 159 [m.v, int limit] (fun v => v = .tup [zeroM.v, int 0, byts []]) → Fx 159 [m.v, int limit] fun v =>
    ∃ (m' : Mouth) (at_ : Int) (b : List Int), m'.wk ∧ (0 ≤ at_ ∧ at_ ≤ 1000064) ∧ b.length ≤ 12 ∧ (b.length ≠ 0 → m.ok = true ∧ m'.keep = m.keep ∧ m.sent < m'.sent ∧ m'.sent ≤ m.keep.length) ∧ v = .tup [m'.v, int at_, byts b] :=
    fun _ h => h.weak fun o ⟨v, hv, ho⟩ => ⟨v, ⟨zeroM, 0, [], zeroM_wk, by decide, by decide, fun h => absurd rfl h, hv⟩, ho⟩
  rcases (Bool.eq_false_or_eq_true m.ok).symm with hok | hok
  · refine z true ?_
    refine fn_of_vc tab_ok mixed Try.call159 Try.func159 rfl [] _ _ (by kernel_rfl) rfl rfl rfl ?_
    (conv => whnf); refine goP (mouthOk_ok' m hk he) ?_
    rw [hok]
    (conv => whnf)
    exact retE (by rfl) (by rfl) rfl
  · obtain ⟨b1, b2, b3, b4, b5⟩ := Mouth.ok_base hok
    by_cases hl : 1 ≤ limit ∧ limit ≤ 12
    case neg =>
      refine z true ?_
      refine fn_of_vc tab_ok mixed Try.call159 Try.func159 rfl [] _ _ (by kernel_rfl) rfl rfl rfl ?_
      (conv => whnf); refine goP (mouthOk_ok' m hk he) ?_
      rw [hok]
      (conv => whnf); refine goP (l1In_ok _ _ _) ?_
      rw [show inB limit 1 12 = false by simp [inB]; omega]
      (conv => whnf)
      exact retE (by rfl) (by rfl) rfl
    refine fn_of_vc tab_ok mixed Try.call159 Try.func159 rfl [] _ _ (by kernel_rfl) rfl rfl rfl ?_
    (conv => whnf); refine goP (mouthOk_ok' m hk he) ?_
    rw [hok]
    (conv => whnf); refine goP (l1In_ok _ _ _) ?_
    rw [show inB limit 1 12 = true by simp [inB]; omega]
    (conv => whnf); refine goP (copyM_ok m hk (by omega)) ?_
    (conv => whnf); refine goW (by omega) (by omega) ?_
    (conv => whnf)
    have hmi : minList [m.room, m.sent + limit] ((bytes m.keep).length : Int) = mi (mi (bytes m.keep).length m.room) (m.sent + limit) := rfl
    have m1 := mi_r (bytes m.keep).length m.room
    have m2 := mi_r (mi (bytes m.keep).length m.room) (m.sent + limit)
    rw [hmi]
    generalize mi (mi ((bytes m.keep).length : Int) m.room) (m.sent + limit) = n at *
    split <;> rename_i hq <;> simp only [decide_eq_true_eq, decide_eq_false_iff_not] at hq
    · (conv => whnf)
      refine ⟨[0, 1, 2, 3, 4, 5, 6, 7, 8, 9], [(0, [7]), (2, [2]), (4, [2]), (7, [4])], (by kernel_rfl), ?_⟩
      (conv => whnf)
      refine goW (by omega) (by omega) ?_
      (conv => whnf)
      exact retE (by rfl) (by rfl) ⟨m, m.heard + m.sent, [], Mouth.ok_wk hok, by omega, by decide, fun h => absurd rfl h, rfl⟩
    · (conv => whnf)
      refine ⟨[0, 1, 2, 3, 4, 5, 6, 7, 8, 9, 10, 11, 12, 13, 14, 15, 16], [(0, [7]), (2, [2]), (4, [2]), (8, [2]), (10, [2]), (14, [4])], (by kernel_rfl), ?_⟩
      (conv => whnf)
      refine goW (by omega) (by omega) ?_
      (conv => whnf)
      refine ⟨by omega, by omega, by omega, by omega, ?_⟩
      rw [bytes_take, bytes_drop]
      (conv => whnf)
      refine ⟨by show (0 + (bytes _).length) * 1 ≤ 140737488355328; simp; omega, rfl, rfl, ?_⟩
      (conv => whnf)
      refine retE (by rfl) (by rfl) ⟨⟨m.heard, m.keep, n, m.room, m.early⟩, m.heard + m.sent, (m.keep.take n.toNat).drop m.sent.toNat, ⟨b1, by dsimp only; omega, by dsimp only; omega, by dsimp only; omega, by dsimp only; omega⟩, by omega, by simp; omega, fun _ => ⟨rfl, rfl, by dsimp only; omega, by dsimp only; omega⟩, rfl⟩
theorem mouthHear_r (m : Mouth) (at_ room : Int) (l : List Rng) (hk : m.keep.length < 1000000000) (he : m.early.length < 1100000) (hl : l.length < 1000000000) (ha : -1000000000000 ≤ at_ ∧ at_ ≤ 1000000000000) : Fx 158 [m.v, int at_, int room, (false, [rgs l])] fun v =>
    ∃ (m' : Mouth) (n : Int), m'.wk ∧ (0 ≤ n ∧ n ≤ 32) ∧ v = .tup [m'.v, int n] := by
  have hbk := bytes_len m.keep
  have z : Fx 158 [m.v, int at_, int room, (false, [rgs l])] (fun v => v = .tup [zeroM.v, int 0]) → Fx 158 [m.v, int at_, int room, (false, [rgs l])] fun v => ∃ (m' : Mouth) (n : Int), m'.wk ∧ (0 ≤ n ∧ n ≤ 32) ∧ v = .tup [m'.v, int n] :=
    fun h => h.weak fun o ⟨v, hv, ho⟩ => ⟨v, ⟨zeroM, 0, zeroM_wk, by decide, hv⟩, ho⟩
  rcases (Bool.eq_false_or_eq_true m.ok).symm with hok | hok
  · refine z ?_
    refine fn_of_vc tab_ok mixed Try.call158 Try.func158 rfl [] _ _ (by kernel_rfl) rfl rfl rfl ?_
    (conv => whnf); refine goP (mouthOk_ok' m hk he) ?_
    rw [hok]
    (conv => whnf)
    exact retE (by rfl) (by rfl) rfl
  · obtain ⟨b1, b2, b3, b4, b5⟩ := Mouth.ok_base hok
    by_cases hr : 0 ≤ room ∧ room ≤ 255
    case neg =>
      refine z ?_
      refine fn_of_vc tab_ok mixed Try.call158 Try.func158 rfl [] _ _ (by kernel_rfl) rfl rfl rfl ?_
      (conv => whnf); refine goP (mouthOk_ok' m hk he) ?_
      rw [hok]
      (conv => whnf); refine goP (l1In_ok _ _ _) ?_
      rw [show inB room 0 255 = false by simp [inB]; omega]
      (conv => whnf)
      exact retE (by rfl) (by rfl) rfl
    refine fn_of_vc tab_ok mixed Try.call158 Try.func158 rfl [] _ _ (by kernel_rfl) rfl rfl rfl ?_
    (conv => whnf); refine goP (mouthOk_ok' m hk he) ?_
    rw [hok]
    (conv => whnf); refine goP (l1In_ok _ _ _) ?_
    rw [show inB room 0 255 = true by simp [inB]; omega]
    (conv => whnf); refine goP (copyM_ok m hk (by omega)) ?_
    (conv => whnf); refine goW (by omega) (by omega) ?_
    (conv => whnf)
    by_cases h1 : at_ < m.heard
    · rw [show decide (at_ < m.heard) = true by simpa using h1]
      (conv => whnf)
      exact retE (by rfl) (by rfl) ⟨m, 0, Mouth.ok_wk hok, by decide, rfl⟩
    rw [show decide (at_ < m.heard) = false by simpa using h1]
    (conv => whnf)
    split <;> rename_i hq <;> simp only [decide_eq_true_eq, decide_eq_false_iff_not] at hq
    · (conv => whnf)
      exact retE (by rfl) (by rfl) ⟨m, 0, Mouth.ok_wk hok, by decide, rfl⟩
    (conv => whnf)
    refine ⟨by omega, by omega, ?_⟩
    rw [bytes_drop]
    (conv => whnf)
    refine ⟨by show (0 + (bytes _).length) * 1 ≤ 140737488355328; simp; omega, rfl, rfl, ?_⟩
    (conv => whnf); refine goW (by omega) (by omega) ?_
    (conv => whnf)
    refine ⟨Nat × List Rng × List (List AV) × Nat, fun x => x.2.2.1 = x.2.1.map Rng.c ∧ x.1 ≤ l.length ∧ x.2.1.length ≤ 2, fun x => ⟨[(1, .one (.i .i64 at_)), (3, .one (rgs l)), (8, .one (.ptr 8 0)), (10, .one (.ptr 10 0)), (11, .one (.i .i64 (at_ - m.heard))), (12, .one (.i .i64 x.1))], [(8, [.i .i64 0, .lst 1 0 5 [], .i .i64 0, .i .i64 0, .lst 1 0 108 []]), (10, [.i .i64 at_, .lst 0 0 5 (bytes (List.drop (at_ - m.heard).toNat m.keep)), .i .i64 (m.sent - (at_ - m.heard)), .i .i64 room, .lst 912 x.2.2.2 108 x.2.2.1])], [(912, x.2.2.2), (1, 0)], [8,10], [912,1]⟩, fun x => l.length - x.1, (0, [], [], 0), fun x => rfl, ?_, (by refine ⟨?_, ?_, ?_⟩ <;> repeat' (first | exact trivial | refine ⟨rfl, ?_⟩)), ?_⟩
    · exact ⟨rfl, by dsimp only; omega, by decide⟩
    rintro ⟨k, acc, cells, v⟩ ⟨hc, hk2, ha2⟩
    dsimp only at hc hk2 ha2
    subst hc
    have hml : (l.map Rng.c).length = l.length := by simp
    have hal : (acc.map Rng.c).length = acc.length := by simp
    (conv => whnf); split <;> rename_i h4 <;> simp only [decide_eq_true_eq, decide_eq_false_iff_not] at h4
    case h_2 =>
      (conv => whnf)
      split <;> rename_i h5 <;> simp only [decide_eq_true_eq, decide_eq_false_iff_not] at h5
      · (conv => whnf)
        exact retE (by rfl) (by rfl) ⟨zeroM, 0, zeroM_wk, by decide, rfl⟩
      · (conv => whnf)
        exact retE (by rfl) (by rfl) ⟨⟨at_, m.keep.drop (at_ - m.heard).toNat, m.sent - (at_ - m.heard), room, acc⟩, at_ - m.heard, ⟨by dsimp only; omega, by simp; omega, by dsimp only; omega, by dsimp only; omega, by dsimp only; omega⟩, by omega, rfl⟩
    have hlt : k < (l.map Rng.c).length := by omega
    obtain ⟨r, hr⟩ := map_get Rng.c l k hlt
    (conv => whnf)
    refine goIdx r.c (by omega) rfl (by simpa using hr) ?_
    (conv => whnf); refine goW (by first | omega | (dsimp only; omega)) (by first | omega | (dsimp only; omega)) ?_
    (conv => whnf)
    refine ⟨[0, 1, 2, 3, 4, 5, 6, 7, 8, 9, 10, 11, 12, 13, 14, 15, 16, 17, 18, 19, 20, 21, 22, 23, 24, 25, 26, 27, 28, 29, 30, 31, 32, 33, 34, 35, 36, 37, 38, 39, 40], [(1, [13]), (6, [13]), (8, [13]), (13, [13]), (16, [10]), (22, [10]), (31, [13]), (33, [10])], (by kernel_rfl), ?_⟩
    (conv => whnf)
    repeat' ((conv => whnf); first
        | (refine goW (by first | omega | (dsimp only; omega)) (by first | omega | (dsimp only; omega)) ?_)
        | ((obtain ⟨r2, hr2⟩ := map_get Rng.c acc (acc.length - 1) (by omega); refine goIdx r2.c (by dsimp only; omega) rfl (by dsimp only; rw [show ((((acc.map Rng.c).length : Nat) : Int) - 1).toNat = acc.length - 1 by omega]; exact hr2) ?_))
        | (refine ⟨by show ((acc.map Rng.c).length + 1) * 16 ≤ 140737488355328; omega, rfl, rfl, ?_⟩)
        | (split <;> rename_i hq <;> (try simp only [Bool.not_eq_eq_eq_not, Bool.not_true, Bool.not_false, decide_eq_true_eq, decide_eq_false_iff_not, inB_t, inB_f, bytes_len, List.length_map, Bool.and_eq_true, Bool.and_eq_false_iff, and_true] at hq) <;> (try (exfalso; first | omega | (simp_all; done))))
        | (refine goW (by first | omega | (simp; omega)) (by first | omega | (simp; omega)) ?_)
        | (refine ret1 (by rfl) (by rfl) (outB ?_); first | rfl | grind [inB])
        | (refine ret1 (by rfl) (by rfl) (outI ?_); first | rfl | omega | grind [inB])
        | (refine ret1 (by rfl) (by rfl) (outB ?_)) | (refine ret1 (by rfl) (by rfl) (outI ?_)))
    all_goals (conv => whnf)
    all_goals first
      | (refine ⟨(k + 1, acc ++ [r], acc.map Rng.c ++ [r.c], v + 1), ?_, ⟨⟨rfl, rfl, rfl, rfl, rfl, rfl, trivial⟩, ⟨rfl, rfl, trivial⟩, ⟨rfl, rfl, trivial⟩⟩, ?_⟩; (focus (refine ⟨?_, ?_, ?_⟩ <;> (try dsimp only) <;> first | rfl | omega | (simp; done) | (simp; omega))); (focus (first | omega | (dsimp only; done) | (dsimp only; omega) | (show _ - _ < _ - _; omega))))
      | (refine ⟨(k + 1, acc, acc.map Rng.c, v), ?_, ⟨⟨rfl, rfl, rfl, rfl, rfl, rfl, trivial⟩, ⟨rfl, rfl, trivial⟩, ⟨rfl, rfl, trivial⟩⟩, ?_⟩; (focus (refine ⟨?_, ?_, ?_⟩ <;> (try dsimp only) <;> first | rfl | omega | (simp; done) | (simp; omega))); (focus (first | omega | (dsimp only; done) | (dsimp only; omega) | (show _ - _ < _ - _; omega))))
end Go.Proofs.Ytpeejmolbmhjjaa.Sx
