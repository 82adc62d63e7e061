/- What WatchEdge comes to; there is no condition beyond those each statement names. -/
import Derived.Test.YtpeejmolbmhjjaaF14
namespace Go.Proofs.Ytpeejmolbmhjjaa.Sx
set_option linter.unusedSimpArgs false
set_option linter.unusedVariables false
open Go
set_option maxRecDepth 100000
set_option maxHeartbeats 0
theorem level_r (w : Watch) (e : End) : 0 ≤ w.level e ∧ w.level e ≤ 7 := by
  unfold Watch.level; split
  · exact bothK_r _ _ 3
  · omega
def Watch.edgeW (w : Watch) (e : End) : Watch := if w.okP then ⟨w.asks, w.level e⟩ else ⟨0, 0⟩
def Watch.edgeN (w : Watch) (e : End) : Int := if w.okP then w.level e - bothK (w.level e) w.told 3 else 0
theorem watchEdge_ok (w : Watch) (e : End) (hs : e.small) : Pure 25 [w.v, e.v] (.tup [(w.edgeW e).v, int (w.edgeN e)]) := by
  have hr := level_r w e
  refine fn_of_vc tab_ok mixed Try.call25 Try.func25 rfl [] _ _ (by kernel_rfl) rfl rfl rfl ?_
  repeat' ((conv => whnf); first
      | (refine goP (watchOk_ok w) ?_)
      | (refine goP (watchLevel_ok w e hs) ?_)
      | (split <;> rename_i hq <;> (try simp only [Bool.not_eq_eq_eq_not, Bool.not_true, Bool.not_false, decide_eq_true_eq, decide_eq_false_iff_not, inB_t, inB_f, bytes_len, List.length_map, Bool.and_eq_true, Bool.and_eq_false_iff, and_true] at hq) <;> (try (exfalso; first | omega | (simp_all; done))))
      | (refine goW (by first | omega | (simp; omega)) (by first | omega | (simp; omega)) ?_)
      | (refine ret1 (by rfl) (by rfl) (outB ?_); first | rfl | grind [Watch.level])
      | (refine ret1 (by rfl) (by rfl) (outI ?_); first | rfl | omega | grind [Watch.level])
      | (refine ret1 (by rfl) (by rfl) (outB ?_)) | (refine ret1 (by rfl) (by rfl) (outI ?_)))
  all_goals (conv => whnf)
  · have hn : ¬ w.okP := hq
    refine retG [] 0 (by rfl) (by rfl) (by rfl) (by rfl) (by rfl) (by rfl) ?_
    rw [Watch.edgeW, Watch.edgeN, if_neg hn, if_neg hn]; rfl
  · have hn : w.okP := hq
    have hw := hn.2.1
    refine ⟨[0, 1, 2, 3, 4, 5, 6, 7, 8, 9], [(1, [2]), (6, [2]), (8, [4])], (by kernel_rfl), ?_⟩
    (conv => whnf)
    repeat' ((conv => whnf); first
        | (refine goAndNot (by omega) (by omega) ?_)
        | (split <;> rename_i hq <;> (try simp only [Bool.not_eq_eq_eq_not, Bool.not_true, Bool.not_false, decide_eq_true_eq, decide_eq_false_iff_not, inB_t, inB_f, bytes_len, List.length_map, Bool.and_eq_true, Bool.and_eq_false_iff, and_true] at hq) <;> (try (exfalso; first | omega | (simp_all; done))))
        | (refine goW (by first | omega | (simp; omega)) (by first | omega | (simp; omega)) ?_)
        | (refine ret1 (by rfl) (by rfl) (outB ?_); first | rfl | grind [Watch.level])
        | (refine ret1 (by rfl) (by rfl) (outI ?_); first | rfl | omega | grind [Watch.level])
        | (refine ret1 (by rfl) (by rfl) (outB ?_)) | (refine ret1 (by rfl) (by rfl) (outI ?_)))
    all_goals (conv => whnf)
    refine retG [] 0 (by rfl) (by rfl) (by rfl) (by rfl) (by rfl) (by rfl) ?_
    rw [Watch.edgeW, Watch.edgeN, if_pos hn, if_pos hn]; rfl
theorem watchEdge_ok' (w : Watch) (e : End) (hs : e.small) : Pure 26 [w.v, e.v] (.tup [(w.edgeW e).v, int (w.edgeN e)]) := by
  have hr := level_r w e
  have hb := bothK_r (w.level e) w.told 3
  refine fn_of_vc tab_ok mixed Try.call26 Try.func26 rfl [] _ _ (by kernel_rfl) rfl rfl rfl ?_
  repeat' ((conv => whnf); first
      | (refine goP (watchOk_ok' w) ?_)
      | (refine goP (watchLevel_ok' w e hs) ?_)
      | (split <;> rename_i hq <;> (try simp only [Bool.not_eq_eq_eq_not, Bool.not_true, Bool.not_false, decide_eq_true_eq, decide_eq_false_iff_not, inB_t, inB_f, bytes_len, List.length_map, Bool.and_eq_true, Bool.and_eq_false_iff, and_true] at hq) <;> (try (exfalso; first | omega | (simp_all; done))))
      | (refine goW (by first | omega | (simp; omega)) (by first | omega | (simp; omega)) ?_)
      | (refine ret1 (by rfl) (by rfl) (outB ?_); first | rfl | grind [Watch.level])
      | (refine ret1 (by rfl) (by rfl) (outI ?_); first | rfl | omega | grind [Watch.level])
      | (refine ret1 (by rfl) (by rfl) (outB ?_)) | (refine ret1 (by rfl) (by rfl) (outI ?_)))
  all_goals (conv => whnf)
  · have hn : ¬ w.okP := hq
    refine retG [] 0 (by rfl) (by rfl) (by rfl) (by rfl) (by rfl) (by rfl) ?_
    rw [Watch.edgeW, Watch.edgeN, if_neg hn, if_neg hn]; rfl
  · have hn : w.okP := hq
    have hw := hn.2.1
    refine ⟨[0, 1, 2, 3, 4, 5, 6, 7, 8, 9, 10, 11], [(1, [2]), (7, [2]), (10, [4])], (by kernel_rfl), ?_⟩
    (conv => whnf)
    repeat' ((conv => whnf); first
        | (refine goP (both_ok _ _ (by omega) (by omega)) ?_)
        | (split <;> rename_i hq <;> (try simp only [Bool.not_eq_eq_eq_not, Bool.not_true, Bool.not_false, decide_eq_true_eq, decide_eq_false_iff_not, inB_t, inB_f, bytes_len, List.length_map, Bool.and_eq_true, Bool.and_eq_false_iff, and_true] at hq) <;> (try (exfalso; first | omega | (simp_all; done))))
        | (refine goW (by first | omega | (simp; omega)) (by first | omega | (simp; omega)) ?_)
        | (refine ret1 (by rfl) (by rfl) (outB ?_); first | rfl | grind [Watch.level])
        | (refine ret1 (by rfl) (by rfl) (outI ?_); first | rfl | omega | grind [Watch.level])
        | (refine ret1 (by rfl) (by rfl) (outB ?_)) | (refine ret1 (by rfl) (by rfl) (outI ?_)))
    all_goals (conv => whnf)
    refine retG [] 0 (by rfl) (by rfl) (by rfl) (by rfl) (by rfl) (by rfl) ?_
    rw [Watch.edgeW, Watch.edgeN, if_pos hn, if_pos hn]; rfl
end Go.Proofs.Ytpeejmolbmhjjaa.Sx
