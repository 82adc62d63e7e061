/- The law of watches that remember; there is no condition beyond those each statement names. -/
import Derived.Test.YtpeejmolbmhjjaaBE2
namespace Go.Proofs.Ytpeejmolbmhjjaa.Sx
set_option linter.unusedSimpArgs false
set_option linter.unusedVariables false
open Go
set_option maxRecDepth 100000
set_option maxHeartbeats 0
theorem bk8' : ∀ a b : Fin 8, bothK (a.val : Int) (bothK (a.val : Int) (b.val : Int) 3) 3 = bothK (a.val : Int) (b.val : Int) 3 ∧ bothK (a.val : Int) (a.val : Int) 3 = (a.val : Int) ∧ 0 ≤ bothK (a.val : Int) (b.val : Int) 3 := by decide
theorem bk' (a b : Int) (ha : 0 ≤ a ∧ a ≤ 7) (hb : 0 ≤ b ∧ b ≤ 7) : bothK a (bothK a b 3) 3 = bothK a b 3 ∧ bothK a a 3 = a ∧ 0 ≤ bothK a b 3 := by
  have := bk8' ⟨a.toNat, by omega⟩ ⟨b.toNat, by omega⟩
  simpa only [Int.toNat_of_nonneg ha.1, Int.toNat_of_nonneg hb.1] using this
theorem watch_edge (w : Watch) (e : End) (hok : w.okP) : w.edgeW e = ⟨w.asks, w.level e⟩ ∧ w.edgeN e ≤ w.level e ∧ (⟨w.asks, w.level e⟩ : Watch).okP ∧ (⟨w.asks, w.level e⟩ : Watch).edgeW e = ⟨w.asks, w.level e⟩ ∧
    (⟨w.asks, w.level e⟩ : Watch).edgeN e = 0 ∧ (⟨w.asks, w.level e⟩ : Watch).edgeW zeroEnd = ⟨w.asks, 0⟩ ∧ (⟨w.asks, 0⟩ : Watch).edgeN e = w.level e := by
  have hr := ready_r e
  have hlv := level_r w e
  have h1 : w.level e = bothK w.asks e.ready 3 := by rw [Watch.level, if_pos hok]
  have hz : zeroEnd.ready = 0 := by unfold End.ready; rw [if_neg zeroEnd_not]
  have hA := hok.1
  have hT := hok.2.1
  have h0 : bothK w.asks 0 3 = 0 := (bk w.asks 0 hA (by omega)).2.2.2
  have o1 : (⟨w.asks, w.level e⟩ : Watch).okP := ⟨hA, hlv, by show bothK w.asks (w.level e) 3 = w.level e; rw [h1]; exact (bk' _ _ hA hr).1⟩
  have o2 : (⟨w.asks, 0⟩ : Watch).okP := ⟨hA, by dsimp only; omega, h0⟩
  have l1 : (⟨w.asks, w.level e⟩ : Watch).level e = w.level e := by rw [Watch.level, if_pos o1]; exact h1.symm
  have l2 : (⟨w.asks, 0⟩ : Watch).level e = w.level e := by rw [Watch.level, if_pos o2]; exact h1.symm
  have l3 : (⟨w.asks, w.level e⟩ : Watch).level zeroEnd = 0 := by rw [Watch.level, if_pos o1, hz]; exact h0
  refine ⟨by rw [Watch.edgeW, if_pos hok], ?_, o1, ?_, ?_, ?_, ?_⟩
  · rw [Watch.edgeN, if_pos hok]; have := (bothK_r (w.level e) w.told 3).1; omega
  · rw [Watch.edgeW, if_pos o1, l1]
  · rw [Watch.edgeN, if_pos o1, l1]; show w.level e - bothK (w.level e) (w.level e) 3 = 0; rw [(bk' _ _ hlv hlv).2.1]; omega
  · rw [Watch.edgeW, if_pos o1, l3]
  · rw [Watch.edgeN, if_pos o2, l2]; show w.level e - bothK (w.level e) 0 3 = w.level e; rw [(bk (w.level e) 0 hlv (by omega)).2.2.2]; omega
theorem law4 (l : List Int) (h2 : ∀ x ∈ l, 0 ≤ x ∧ x ≤ 255) : Pure 4 [byts l] (.pv (bool true)) := by
  refine fn_of_vc tab_ok mixed Try.call4 Try.func4 rfl [] _ _ (by kernel_rfl) rfl rfl rfl ?_
  (conv => whnf); split <;> rename_i hq
  · (conv => whnf); exact ret1 (by rfl) (by rfl) (by rfl)
  have hl : l.length ≤ 1048576 := by simp at hq; omega
  (conv => whnf); refine goE (drawWatchEdge_r hl h2) ?_
  rintro _ ⟨w, e, he, rfl⟩
  have hr := ready_r e
  have hlv := level_r w e
  (conv => whnf); refine goP (watchEdge_ok w e he) ?_
  (conv => whnf); refine goP (watchEdge_ok' w e he) ?_
  by_cases hok : w.okP
  · obtain ⟨e1, e2, e3, e4, e5, e6, e7⟩ := watch_edge w e hok
    rw [e1]
    repeat' ((conv => whnf); first
        | (refine goDr 69 [0, 1, 2, 3, 4, 5, 6, 7, 8, 9, 10, 11, 12, 13, 14, 15, 16, 17, 18, 19, 20, 21, 22, 23, 24, 25, 26, 27, 28, 29, 30, 31, 32, 33, 34] [(0, [5]), (7, [9]), (8, [5]), (13, [5]), (14, [3]), (15, [4]), (22, [5]), (28, [5])] rfl (by kernel_rfl) ?_)
        | (refine ⟨rfl, ?_⟩)
        | ((refine goP (watchOk_ok w) ?_; rw [decide_eq_true hok]))
        | ((refine goP (watchOk_ok ⟨w.asks, w.level e⟩) ?_; rw [decide_eq_true e3]))
        | ((refine goP (watchEdge_ok ⟨w.asks, w.level e⟩ e he) ?_; rw [e4, e5]))
        | ((refine goP (watchEdge_ok ⟨w.asks, w.level e⟩ zeroEnd zeroEnd_small) ?_; rw [e6]))
        | ((refine goP (watchEdge_ok ⟨w.asks, 0⟩ e he) ?_; rw [e7]))
        | (refine goP (watchLevel_ok w e he) ?_)
        | (refine goP alive_ok ?_)
        | (exact ret1 (by rfl) (by rfl) (by rfl))
        | (split <;> rename_i hq <;> (try simp only [Bool.not_eq_eq_eq_not, Bool.not_true, Bool.not_false, decide_eq_true_eq, decide_eq_false_iff_not, inB_t, inB_f, bytes_len, List.length_map, Bool.and_eq_true, Bool.and_eq_false_iff, and_true] at hq) <;> (try (exfalso; omega)))
        | (refine goW (by first | omega | (simp; omega)) (by first | omega | (simp; omega)) ?_)
        | (refine ret1 (by rfl) (by rfl) (outB ?_); first | rfl | grind [inB])
        | (refine ret1 (by rfl) (by rfl) (outI ?_); first | rfl | omega | grind [inB])
        | (refine ret1 (by rfl) (by rfl) (outB ?_)) | (refine ret1 (by rfl) (by rfl) (outI ?_)))
  · have h1 : w.edgeN e = 0 := if_neg hok
    rw [h1]
    repeat' ((conv => whnf); first
        | (refine ⟨rfl, ?_⟩)
        | ((refine goP (watchOk_ok w) ?_; rw [decide_eq_false hok]))
        | (refine goP alive_ok ?_)
        | (exact ret1 (by rfl) (by rfl) (by rfl))
        | (split <;> rename_i hq <;> (try simp only [Bool.not_eq_eq_eq_not, Bool.not_true, Bool.not_false, decide_eq_true_eq, decide_eq_false_iff_not, inB_t, inB_f, bytes_len, List.length_map, Bool.and_eq_true, Bool.and_eq_false_iff, and_true] at hq) <;> (try (exfalso; omega)))
        | (refine goW (by first | omega | (simp; omega)) (by first | omega | (simp; omega)) ?_)
        | (refine ret1 (by rfl) (by rfl) (outB ?_); first | rfl | grind [inB])
        | (refine ret1 (by rfl) (by rfl) (outI ?_); first | rfl | omega | grind [inB])
        | (refine ret1 (by rfl) (by rfl) (outB ?_)) | (refine ret1 (by rfl) (by rfl) (outI ?_)))
end Go.Proofs.Ytpeejmolbmhjjaa.Sx
