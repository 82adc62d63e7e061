/- What EarOk of impl comes to; there is no condition beyond those each statement names. -/
import Derived.Test.YtpeejmolbmhjjaaF1
namespace Go.Proofs.Ytpeejmolbmhjjaa.Sx
set_option linter.unusedSimpArgs false
set_option linter.unusedVariables false
open Go
set_option maxRecDepth 100000
theorem inB_t {n lo hi : Int} : (inB n lo hi = true) = (lo ≤ n ∧ n ≤ hi) := by simp [inB]
theorem inB_f {n lo hi : Int} : (inB n lo hi = false) = ¬(lo ≤ n ∧ n ≤ hi) := by simp only [eq_iff_iff, ← inB_iff]; simp
theorem earOk_ok (e : Ear) (hl : e.far.length < 1000000000) (hg : e.got.length < 1000000000) : Pure 97 [e.v] (.pv (bool e.ok)) := by
  refine fn_of_vc tab_ok mixed Try.call97 Try.func97 rfl [] _ _ (by kernel_rfl) rfl rfl rfl ?_
  repeat' ((conv => whnf); first
      | (refine goP (in_ok _ _ _) ?_)
      | (refine goP (free_ok e (by omega) (by omega) hg) ?_)
      | (split <;> rename_i hq <;> (try simp only [Bool.not_eq_eq_eq_not, Bool.not_true, Bool.not_false, decide_eq_true_eq, decide_eq_false_iff_not, inB_t, inB_f, bytes_len, List.length_map, Bool.and_eq_true, Bool.and_eq_false_iff, and_true] at hq) <;> (try (exfalso; first | omega | (simp_all; done))))
      | (refine goW (by first | omega | (simp; omega)) (by first | omega | (simp; omega)) ?_)
      | (refine ret1 (by rfl) (by rfl) (outB ?_); first | rfl | grind [Ear.ok, inB])
      | (refine ret1 (by rfl) (by rfl) (outI ?_); first | rfl | omega | grind [Ear.ok, inB])
      | (refine ret1 (by rfl) (by rfl) (outB ?_)) | (refine ret1 (by rfl) (by rfl) (outI ?_)))
  all_goals try (conv => whnf)
  rename_i _ hn _ hr _
  refine ⟨Nat, fun x => x ≤ e.far.length ∧ ∀ j, j < x → e.okAt j = true, fun x => ⟨[(1, .one (.ptr 1 0)), (2, .one (.b false)), (21, .one (.lst 0 0 138 (e.far.map Early.c))), (22, .one (.i .i64 (e.far.map Early.c).length)), (23, .one (.i .i64 x))], [(1, e.c)], [(1, 0)], [1], [1]⟩, fun x => e.far.length - x, 0, fun x => rfl, ?_, (by refine ⟨?_, ?_, ?_⟩ <;> repeat' (first | exact trivial | refine ⟨rfl, ?_⟩)), ?_⟩
  · exact ⟨by omega, fun j hj => by omega⟩
  rintro k ⟨hk, hinv⟩
  (conv => whnf); split <;> rename_i h4 <;> simp only [decide_eq_true_eq, decide_eq_false_iff_not, List.length_map] at h4
  case h_2 =>
    (conv => whnf)
    have hke : k = e.far.length := by omega
    subst hke
    refine ret1 (by rfl) (by rfl) (outB ?_); first | rfl | (simp_all [e.ok_all (inB_iff.2 hn) (inB_iff.2 hr) (by omega) hinv]; done) | (simp_all [e.ok_all (inB_iff.2 hn) (inB_iff.2 hr) (by omega) hinv]; omega)
  have hlt : k < e.far.length := by omega
  (conv => whnf)
  refine goIdx (e.fa k).c (by omega) rfl (by simpa using far_get hlt) ?_
  (conv => whnf)
  refine ⟨[0, 1, 2, 3, 4, 5, 6, 7, 8, 9, 10, 11, 12, 13, 14, 15, 16, 17, 18, 19, 20, 21, 22, 23, 24, 25, 26, 27, 28], [(1, [4]), (3, [1]), (6, [1]), (7, [1]), (18, [1]), (25, [4])], (by kernel_rfl), ?_⟩
  (conv => whnf)
  repeat' ((conv => whnf); first
      | (refine goP (in_ok _ _ _) ?_)
      | (refine goP (free_ok e (by omega) (by omega) hg) ?_)
      | (refine ret1 (by rfl) (by rfl) (outB (Ear.ok_not k hlt (by grind [Ear.okAt])).symm))
      | (refine goIdx (e.fa (k - 1)).c (by omega) rfl (by rw [show ((k : Int) - 1).toNat = k - 1 by omega]; exact far_get (by omega)) ?_)
      | (split <;> rename_i hq <;> (try simp only [Bool.not_eq_eq_eq_not, Bool.not_true, Bool.not_false, decide_eq_true_eq, decide_eq_false_iff_not, inB_t, inB_f, bytes_len, List.length_map, Bool.and_eq_true, Bool.and_eq_false_iff, and_true] at hq) <;> (try (exfalso; first | omega | (simp_all; done))))
      | (refine goW (by first | omega | (simp; omega)) (by first | omega | (simp; omega)) ?_)
      | (refine ret1 (by rfl) (by rfl) (outB ?_); first | rfl | grind [Ear.ok, inB])
      | (refine ret1 (by rfl) (by rfl) (outI ?_); first | rfl | omega | grind [Ear.ok, inB])
      | (refine ret1 (by rfl) (by rfl) (outB ?_)) | (refine ret1 (by rfl) (by rfl) (outI ?_)))
  all_goals (conv => whnf)
  all_goals refine ⟨k + 1, ?_, (by refine ⟨?_, ?_, ?_⟩ <;> repeat' (first | exact trivial | refine ⟨rfl, ?_⟩)), ?_⟩
  all_goals first | (show e.far.length - (k + 1) < e.far.length - k; omega) | refine ⟨by omega, fun j hj => ?_⟩
  all_goals
    by_cases hjk : j = k
    · subst hjk; grind [Ear.okAt]
    · exact hinv j (by omega)
end Go.Proofs.Ytpeejmolbmhjjaa.Sx
