/- What MouthOk comes to; there is no condition beyond those each statement names. -/
import Derived.Test.YtpeejmolbmhjjaaF3
namespace Go.Proofs.Ytpeejmolbmhjjaa.Sx
set_option linter.unusedSimpArgs false
set_option linter.unusedVariables false
open Go
set_option maxRecDepth 100000
def Mouth.base (m : Mouth) : Prop := (0 ≤ m.heard ∧ m.heard ≤ 1000000) ∧ m.keep.length ≤ 32 ∧ (0 ≤ m.sent ∧ m.sent ≤ m.keep.length) ∧ (0 ≤ m.room ∧ m.room ≤ 255) ∧ m.early.length ≤ 2
instance (m : Mouth) : Decidable m.base := by unfold Mouth.base; infer_instance
def Mouth.ok (m : Mouth) : Bool := decide (m.base ∧ okR m.heard [] m.early (m.heard + m.sent) = m.early)
/-- The k-th early range lies where it may. -/
def Mouth.okAt (m : Mouth) (k : Nat) : Bool :=
  decide (m.heard < (rat m.early k).fr ∧ (rat m.early k).fr < (rat m.early k).to ∧ (rat m.early k).to ≤ m.heard + m.sent ∧ (k = 0 ∨ (rat m.early (k - 1)).to < (rat m.early k).fr))
theorem Mouth.ok_all {m : Mouth} (h : m.base) (h2 : ∀ j, j < m.early.length → m.okAt j = true) : m.ok = true := by
  have h5 := h.2.2.2.2
  simp only [Mouth.ok, h, true_and]
  generalize hl : m.early = l at *
  match l, h5 with
  | [], _ => simp [okR]
  | [a], _ => have := h2 0 (by simp); simp [Mouth.okAt, rat, hl] at this; simp [okR]; omega
  | [a, b], _ =>
    have := h2 0 (by simp)
    have := h2 1 (by simp)
    simp [Mouth.okAt, rat, hl] at *
    simp [okR, *]
theorem Mouth.ok_not {m : Mouth} (h : m.early.length ≤ 2) (j : Nat) (hj : j < m.early.length) (h2 : m.okAt j = false) : m.ok = false := by
  simp only [Mouth.ok, decide_eq_false_iff_not]
  rintro ⟨_, h3⟩
  generalize hl : m.early = l at *
  match l, h with
  | [], _ => simp at hj
  | [a], _ =>
    have : j = 0 := by simp at hj; omega
    subst this
    simp [Mouth.okAt, rat, hl] at h2; simp [okR] at h3; grind
  | [a, b], _ =>
    simp at hj
    simp [okR] at h3
    have : j = 0 ∨ j = 1 := by omega
    rcases this with rfl | rfl <;> simp [Mouth.okAt, rat, hl] at h2 <;> grind
theorem okR_len (hi : Int) : ∀ (l : List Rng) (lo : Int) (acc : List Rng), (okR lo acc l hi).length ≤ acc.length + l.length
  | [], lo, acc => by simp [okR]
  | r :: rs, lo, acc => by
    rw [okR]; split
    · have := okR_len hi rs r.to (acc ++ [r]); simp at this ⊢; omega
    · have := okR_len hi rs lo acc; simp; omega
theorem mouthOk_ok (m : Mouth) (hk : m.keep.length < 1000000000) (he : m.early.length < 1100000) : Pure 70 [m.v] (.pv (bool m.ok)) := by
  refine fn_of_vc tab_ok mixed Try.call70 Try.func70 rfl [] _ _ (by kernel_rfl) rfl rfl rfl ?_
  (conv => whnf)
  refine ⟨[0, 1, 2, 3, 4, 5, 6, 7, 8, 9, 10, 11, 12, 13, 14, 15, 16, 17, 18, 19, 20, 21, 22, 23, 24, 25, 26, 27, 28, 29, 30, 31, 32, 33, 34, 35, 36, 37, 39, 40, 38, 41, 42, 43], [(1, [1]), (5, [1]), (11, [1]), (13, [1]), (19, [1]), (24, [1]), (30, [1]), (32, [1]), (34, [1]), (36, [1]), (40, [1])], (by kernel_rfl), ?_⟩
  (conv => whnf)
  repeat' ((conv => whnf); first
      | (refine goP (in_ok _ _ _) ?_)
      | (refine goP (rangesOk_ok m.early m.heard _ he) ?_)
      | (refine goP (eqR_ok (okR m.heard [] m.early (m.heard + m.sent)) m.early (by have := okR_len (m.heard + m.sent) m.early m.heard []; simp at this; omega) (by omega)) ?_)
      | (split <;> rename_i hq <;> (try simp only [Bool.not_eq_eq_eq_not, Bool.not_true, Bool.not_false, decide_eq_true_eq, decide_eq_false_iff_not, inB_t, inB_f, bytes_len, List.length_map, Bool.and_eq_true, Bool.and_eq_false_iff, and_true] at hq) <;> (try (exfalso; first | omega | (simp_all; done))))
      | (refine goW (by first | omega | (simp; omega)) (by first | omega | (simp; omega)) ?_)
      | (refine ret1 (by rfl) (by rfl) (outB ?_); first | rfl | grind [Mouth.ok, inB, Mouth.base])
      | (refine ret1 (by rfl) (by rfl) (outI ?_); first | rfl | omega | grind [Mouth.ok, inB, Mouth.base])
      | (refine ret1 (by rfl) (by rfl) (outB ?_)) | (refine ret1 (by rfl) (by rfl) (outI ?_)))
theorem mouthOk_ok' (m : Mouth) (hk : m.keep.length < 1000000000) (he : m.early.length < 1100000) : Pure 109 [m.v] (.pv (bool m.ok)) := by
  refine fn_of_vc tab_ok mixed Try.call109 Try.func109 rfl [] _ _ (by kernel_rfl) rfl rfl rfl ?_
  repeat' ((conv => whnf); first
      | (refine goP (l1In_ok _ _ _) ?_)
      | (split <;> rename_i hq <;> (try simp only [Bool.not_eq_eq_eq_not, Bool.not_true, Bool.not_false, decide_eq_true_eq, decide_eq_false_iff_not, inB_t, inB_f, bytes_len, List.length_map, Bool.and_eq_true, Bool.and_eq_false_iff, and_true] at hq) <;> (try (exfalso; first | omega | (simp_all; done))))
      | (refine goW (by first | omega | (simp; omega)) (by first | omega | (simp; omega)) ?_)
      | (refine ret1 (by rfl) (by rfl) (outB ?_); first | rfl | grind [Mouth.ok, inB, Mouth.base])
      | (refine ret1 (by rfl) (by rfl) (outI ?_); first | rfl | omega | grind [Mouth.ok, inB, Mouth.base])
      | (refine ret1 (by rfl) (by rfl) (outB ?_)) | (refine ret1 (by rfl) (by rfl) (outI ?_)))
  (conv => whnf)
  rename_i _ c1 _ c2 _ c3 _ c4 _
  have hb : m.base := ⟨c1, by omega, c3, c4, by omega⟩
  refine ⟨Nat, fun x => x ≤ m.early.length ∧ ∀ j, j < x → m.okAt j = true, fun x => ⟨[(1, .one (.ptr 1 0)), (2, .one (.b false)), (3, .one (.i .i64 x))], [(1, m.c)], [(1, 0)], [1], [1]⟩, fun x => m.early.length - x, 0, fun x => rfl, ?_, (by refine ⟨?_, ?_, ?_⟩ <;> repeat' (first | exact trivial | refine ⟨rfl, ?_⟩)), ?_⟩
  · exact ⟨by omega, fun j hj => by omega⟩
  rintro k ⟨hk, hinv⟩
  (conv => whnf); split <;> rename_i h4 <;> simp only [decide_eq_true_eq, decide_eq_false_iff_not, List.length_map] at h4
  case h_2 =>
    (conv => whnf); refine ret1 (by rfl) (by rfl) (outB ?_)
    have hke : k = m.early.length := by omega
    subst hke
    exact (Mouth.ok_all hb hinv).symm
  have hlt : k < m.early.length := by omega
  (conv => whnf)
  refine goIdx (rat m.early k).c (by omega) rfl (by simpa using rat_get hlt) ?_
  (conv => whnf)
  refine ⟨[0, 1, 2, 3, 4, 5, 6, 7, 8, 9, 10, 11, 12, 13, 14, 15, 16, 17, 18, 19, 20, 21, 22, 23, 24, 25, 26, 27, 28, 29, 30, 31, 32, 33, 34, 35, 36, 37], [(1, [4]), (3, [1]), (7, [4]), (9, [4]), (14, [4]), (16, [1]), (18, [1]), (27, [1]), (34, [4])], (by kernel_rfl), ?_⟩
  (conv => whnf)
  repeat' ((conv => whnf); first
      | (refine ret1 (by rfl) (by rfl) (outB (Mouth.ok_not (by omega) k hlt (by grind [Mouth.okAt])).symm))
      | (refine goIdx (rat m.early (k - 1)).c (by omega) rfl (by rw [show ((k : Int) - 1).toNat = k - 1 by omega]; exact rat_get (by omega)) ?_)
      | (split <;> rename_i hq <;> (try simp only [Bool.not_eq_eq_eq_not, Bool.not_true, Bool.not_false, decide_eq_true_eq, decide_eq_false_iff_not, inB_t, inB_f, bytes_len, List.length_map, Bool.and_eq_true, Bool.and_eq_false_iff, and_true] at hq) <;> (try (exfalso; first | omega | (simp_all; done))))
      | (refine goW (by first | omega | (simp; omega)) (by first | omega | (simp; omega)) ?_)
      | (refine ret1 (by rfl) (by rfl) (outB ?_); first | rfl | grind [inB])
      | (refine ret1 (by rfl) (by rfl) (outI ?_); first | rfl | omega | grind [inB])
      | (refine ret1 (by rfl) (by rfl) (outB ?_)) | (refine ret1 (by rfl) (by rfl) (outI ?_)))
  all_goals (conv => whnf)
  all_goals refine ⟨k + 1, ?_, (by refine ⟨?_, ?_, ?_⟩ <;> repeat' (first | exact trivial | refine ⟨rfl, ?_⟩)), ?_⟩
  all_goals first | (show m.early.length - (k + 1) < m.early.length - k; omega) | refine ⟨by omega, fun j hj => ?_⟩
  all_goals
    by_cases hjk : j = k
    · subst hjk; grind [Mouth.okAt]
    · exact hinv j (by omega)
end Go.Proofs.Ytpeejmolbmhjjaa.Sx
