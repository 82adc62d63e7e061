/- The exact laws of ends come to true; there is no condition beyond those each statement names. -/
import Derived.Test.YtpeejmolbmhjjaaF18
namespace Go.Proofs.Ytpeejmolbmhjjaa.Sx
set_option linter.unusedSimpArgs false
set_option linter.unusedVariables false
open Go
set_option maxRecDepth 100000
set_option maxHeartbeats 0
theorem law8 (e : End) (hf : e.fits) : Pure 8 [(true, e.cL)] (.pv (bool true)) := by
  refine fn_of_vc tab_ok mixed Try.call8 Try.func8 rfl [] _ _ (by kernel_rfl) rfl rfl rfl ?_
  (conv => whnf); refine goP (szEnd_ok e 1048576 (by omega) hf) ?_
  (conv => whnf); split <;> rename_i hq <;> simp only [decide_eq_true_eq, decide_eq_false_iff_not] at hq
  · (conv => whnf); exact ret1 (by rfl) (by rfl) (by rfl)
  have hs := szT_small (by omega) hq
  (conv => whnf); refine goP (toEnd_ok e hs) ?_
  (conv => whnf); refine goP (endOk_ok' e hs) ?_
  (conv => whnf); refine goP (toEnd_ok e hs) ?_
  (conv => whnf); refine goP (endOk_ok e hs) ?_
  (conv => whnf); split <;> rename_i hq2
  · simp at hq2
  (conv => whnf)
  refine ⟨[0, 1, 2, 3, 4], [(0, [5]), (1, [1])], (by kernel_rfl), ?_⟩
  (conv => whnf)
  refine goP (toEnd_ok e hs) ?_
  (conv => whnf); refine goP (eqEnd_ok e hs) ?_
  (conv => whnf); exact ret1 (by rfl) (by rfl) (by rfl)
theorem law9 (e : End) (hf : e.fits) : Pure 9 [(true, e.cL)] (.pv (bool true)) := by
  refine fn_of_vc tab_ok mixed Try.call9 Try.func9 rfl [] _ _ (by kernel_rfl) rfl rfl rfl ?_
  (conv => whnf); refine goP (szEnd_ok e 1048576 (by omega) hf) ?_
  (conv => whnf); split <;> rename_i hq <;> simp only [decide_eq_true_eq, decide_eq_false_iff_not] at hq
  · (conv => whnf); exact ret1 (by rfl) (by rfl) (by rfl)
  have hs := szT_small (by omega) hq
  (conv => whnf); refine goP (toEnd_ok e hs) ?_
  (conv => whnf); refine goP (endOver_ok' e hs) ?_
  (conv => whnf); refine goP (toEnd_ok e hs) ?_
  (conv => whnf); refine goP (endOver_ok e hs) ?_
  (conv => whnf); split <;> rename_i hq2
  · simp at hq2
  (conv => whnf)
  refine ⟨[0, 1, 2, 3, 4], [(0, [5]), (1, [1])], (by kernel_rfl), ?_⟩
  (conv => whnf)
  refine goP (toEnd_ok e hs) ?_
  (conv => whnf); refine goP (eqEnd_ok e hs) ?_
  (conv => whnf); exact ret1 (by rfl) (by rfl) (by rfl)
theorem law10 (e : End) (hf : e.fits) : Pure 10 [(true, e.cL)] (.pv (bool true)) := by
  refine fn_of_vc tab_ok mixed Try.call10 Try.func10 rfl [] _ _ (by kernel_rfl) rfl rfl rfl ?_
  (conv => whnf); refine goP (szEnd_ok e 1048576 (by omega) hf) ?_
  (conv => whnf); split <;> rename_i hq <;> simp only [decide_eq_true_eq, decide_eq_false_iff_not] at hq
  · (conv => whnf); exact ret1 (by rfl) (by rfl) (by rfl)
  have hs := szT_small (by omega) hq
  (conv => whnf); refine goP (toEnd_ok e hs) ?_
  (conv => whnf); refine goP (ready_ok' e hs) ?_
  (conv => whnf); refine goP (toEnd_ok e hs) ?_
  (conv => whnf); refine goP (ready_ok e hs) ?_
  (conv => whnf); split <;> rename_i hq2
  · simp at hq2
  (conv => whnf)
  refine ⟨[0, 1, 2, 3, 4], [(0, [5]), (1, [1])], (by kernel_rfl), ?_⟩
  (conv => whnf)
  refine goP (toEnd_ok e hs) ?_
  (conv => whnf); refine goP (eqEnd_ok e hs) ?_
  (conv => whnf); exact ret1 (by rfl) (by rfl) (by rfl)
theorem toWatch_ok (r : Watch) : Pure 47 [r.v] (.pv r.v) := by
  refine fn_of_vc tab_ok mixed Try.call47 Try.func47 rfl [] _ _ (by kernel_rfl) rfl rfl rfl ?_
  (conv => whnf); exact ret1 (by rfl) (by rfl) (by rfl)
theorem eqWatch_ok (r : Watch) : Pure 48 [r.v, r.v] (.pv (bool true)) := by
  refine fn_of_vc tab_ok mixed Try.call48 Try.func48 rfl [] _ _ (by kernel_rfl) rfl rfl rfl ?_
  repeat' ((conv => whnf); first
      | (fail)
      | (split <;> rename_i hq <;> (try simp only [Bool.not_eq_eq_eq_not, Bool.not_true, Bool.not_false, decide_eq_true_eq, decide_eq_false_iff_not, inB_t, inB_f, bytes_len, List.length_map, Bool.and_eq_true, Bool.and_eq_false_iff, and_true] at hq) <;> (try (exfalso; first | omega | (simp_all; done))))
      | (refine goW (by first | omega | (simp; omega)) (by first | omega | (simp; omega)) ?_)
      | (refine ret1 (by rfl) (by rfl) (outB ?_); first | rfl | grind [inB])
      | (refine ret1 (by rfl) (by rfl) (outI ?_); first | rfl | omega | grind [inB])
      | (refine ret1 (by rfl) (by rfl) (outB ?_)) | (refine ret1 (by rfl) (by rfl) (outI ?_)))
theorem law11 (w : Watch) (e : End) (hf : e.fits) : Pure 11 [w.v, (true, e.cL)] (.pv (bool true)) := by
  refine fn_of_vc tab_ok mixed Try.call11 Try.func11 rfl [] _ _ (by kernel_rfl) rfl rfl rfl ?_
  (conv => whnf); refine goP (szEnd_ok e 1048576 (by omega) hf) ?_
  (conv => whnf); split <;> rename_i hq <;> simp only [decide_eq_true_eq, decide_eq_false_iff_not] at hq
  · (conv => whnf); exact ret1 (by rfl) (by rfl) (by rfl)
  have hs := szT_small (by omega) hq
  (conv => whnf)
  refine ⟨[0, 2, 1, 3, 4, 5], [(0, [2]), (2, [3])], (by kernel_rfl), ?_⟩
  (conv => whnf)
  refine goP (toWatch_ok w) ?_
  (conv => whnf); refine goP (toEnd_ok e hs) ?_
  (conv => whnf); refine goP (watchLevel_ok' w e hs) ?_
  (conv => whnf); refine goP (toEnd_ok e hs) ?_
  (conv => whnf)
  refine ⟨[0, 2, 1, 3, 4], [(0, [2]), (2, [7])], (by kernel_rfl), ?_⟩
  (conv => whnf)
  refine goP (toWatch_ok w) ?_
  (conv => whnf); refine goP (watchLevel_ok w e hs) ?_
  (conv => whnf); split <;> rename_i hq2
  · simp at hq2
  (conv => whnf)
  refine ⟨[0, 1, 2, 3, 4], [(0, [7]), (1, [3])], (by kernel_rfl), ?_⟩
  (conv => whnf)
  refine goP (toEnd_ok e hs) ?_
  (conv => whnf); refine goP (eqEnd_ok e hs) ?_
  (conv => whnf); exact ret1 (by rfl) (by rfl) (by rfl)
theorem law12 (w : Watch) (e : End) (hf : e.fits) : Pure 12 [w.v, (true, e.cL)] (.pv (bool true)) := by
  refine fn_of_vc tab_ok mixed Try.call12 Try.func12 rfl [] _ _ (by kernel_rfl) rfl rfl rfl ?_
  (conv => whnf); refine goP (szEnd_ok e 1048576 (by omega) hf) ?_
  (conv => whnf); split <;> rename_i hq <;> simp only [decide_eq_true_eq, decide_eq_false_iff_not] at hq
  · (conv => whnf); exact ret1 (by rfl) (by rfl) (by rfl)
  have hs := szT_small (by omega) hq
  (conv => whnf)
  refine ⟨[0, 2, 8, 1, 3, 4, 5, 6, 7, 9, 10], [(0, [2]), (2, [3]), (9, [6])], (by kernel_rfl), ?_⟩
  (conv => whnf)
  refine goP (toWatch_ok w) ?_
  (conv => whnf); refine goP (toEnd_ok e hs) ?_
  (conv => whnf); refine goP (watchEdge_ok' w e hs) ?_
  (conv => whnf); refine goP (toEnd_ok e hs) ?_
  (conv => whnf)
  refine ⟨[0, 2, 7, 1, 3, 4, 5, 6, 8, 9], [(0, [2]), (2, [8]), (8, [9])], (by kernel_rfl), ?_⟩
  (conv => whnf)
  refine goP (toWatch_ok w) ?_
  (conv => whnf); refine goP (watchEdge_ok w e hs) ?_
  (conv => whnf); refine goP (eqWatch_ok _) ?_
  (conv => whnf); split <;> rename_i hq2
  · simp at hq2
  (conv => whnf)
  refine ⟨[0, 1, 2, 3, 4], [(0, [8]), (1, [3])], (by kernel_rfl), ?_⟩
  (conv => whnf)
  refine goP (toEnd_ok e hs) ?_
  (conv => whnf); refine goP (eqEnd_ok e hs) ?_
  (conv => whnf); exact ret1 (by rfl) (by rfl) (by rfl)
end Go.Proofs.Ytpeejmolbmhjjaa.Sx
