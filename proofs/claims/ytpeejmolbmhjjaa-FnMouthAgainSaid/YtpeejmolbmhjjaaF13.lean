/- What EndOver and ReadyOf come to; there is no condition beyond those each statement names. -/
import Derived.Test.YtpeejmolbmhjjaaF11
namespace Go.Proofs.Ytpeejmolbmhjjaa.Sx
set_option linter.unusedSimpArgs false
set_option linter.unusedVariables false
open Go
set_option maxRecDepth 100000
set_option maxHeartbeats 0
def End.overP (e : End) : Prop := e.peerLast = e.inn.next ∧ e.inn.got.length = 0
instance (e : End) : Decidable e.overP := by unfold End.overP; infer_instance
theorem over_ok (e : End) : Pure 85 [e.v] (.pv (bool (decide e.overP))) := by
  refine fn_of_vc tab_ok mixed Try.call85 Try.func85 rfl [] _ _ (by kernel_rfl) rfl rfl rfl ?_
  repeat' ((conv => whnf); first
      | (fail)
      | (split <;> rename_i hq <;> (try simp only [Bool.not_eq_eq_eq_not, Bool.not_true, Bool.not_false, decide_eq_true_eq, decide_eq_false_iff_not, inB_t, inB_f, bytes_len, List.length_map, Bool.and_eq_true, Bool.and_eq_false_iff, and_true] at hq) <;> (try (exfalso; first | omega | (simp_all; done))))
      | (refine goW (by first | omega | (simp; omega)) (by first | omega | (simp; omega)) ?_)
      | (refine ret1 (by rfl) (by rfl) (outB ?_); first | rfl | grind [End.overP, bytes_len])
      | (refine ret1 (by rfl) (by rfl) (outI ?_); first | rfl | omega | grind [End.overP, bytes_len])
      | (refine ret1 (by rfl) (by rfl) (outB ?_)) | (refine ret1 (by rfl) (by rfl) (outI ?_)))
theorem endOver_ok (e : End) (hs : e.small) : Pure 45 [e.v] (.pv (bool (decide (e.okP ∧ e.overP)))) := by
  refine fn_of_vc tab_ok mixed Try.call45 Try.func45 rfl [] _ _ (by kernel_rfl) rfl rfl rfl ?_
  repeat' ((conv => whnf); first
      | (refine goP (endOk_ok e hs) ?_)
      | (refine goP (over_ok e) ?_)
      | (split <;> rename_i hq <;> (try simp only [Bool.not_eq_eq_eq_not, Bool.not_true, Bool.not_false, decide_eq_true_eq, decide_eq_false_iff_not, inB_t, inB_f, bytes_len, List.length_map, Bool.and_eq_true, Bool.and_eq_false_iff, and_true] at hq) <;> (try (exfalso; first | omega | (simp_all; done))))
      | (refine goW (by first | omega | (simp; omega)) (by first | omega | (simp; omega)) ?_)
      | (refine ret1 (by rfl) (by rfl) (outB ?_); first | rfl | grind [End.overP, bytes_len])
      | (refine ret1 (by rfl) (by rfl) (outI ?_); first | rfl | omega | grind [End.overP, bytes_len])
      | (refine ret1 (by rfl) (by rfl) (outB ?_)) | (refine ret1 (by rfl) (by rfl) (outI ?_)))
theorem endOver_ok' (e : End) (hs : e.small) : Pure 44 [e.v] (.pv (bool (decide (e.okP ∧ e.overP)))) := by
  refine fn_of_vc tab_ok mixed Try.call44 Try.func44 rfl [] _ _ (by kernel_rfl) rfl rfl rfl ?_
  repeat' ((conv => whnf); first
      | (refine goP (endOk_ok' e hs) ?_)
      | (split <;> rename_i hq <;> (try simp only [Bool.not_eq_eq_eq_not, Bool.not_true, Bool.not_false, decide_eq_true_eq, decide_eq_false_iff_not, inB_t, inB_f, bytes_len, List.length_map, Bool.and_eq_true, Bool.and_eq_false_iff, and_true] at hq) <;> (try (exfalso; first | omega | (simp_all; done))))
      | (refine goW (by first | omega | (simp; omega)) (by first | omega | (simp; omega)) ?_)
      | (refine ret1 (by rfl) (by rfl) (outB ?_); first | rfl | grind [End.overP, bytes_len])
      | (refine ret1 (by rfl) (by rfl) (outI ?_); first | rfl | omega | grind [End.overP, bytes_len])
      | (refine ret1 (by rfl) (by rfl) (outB ?_)) | (refine ret1 (by rfl) (by rfl) (outI ?_)))
def End.ready (e : End) : Int :=
  if e.okP then (if 0 < e.inn.got.length ∨ e.overP ∨ e.state = 5 then 1 else 0) + (if e.state = 4 ∧ e.closed = false ∧ e.out.keep.length < 32 then 2 else 0) + (if e.state = 5 ∨ (e.overP ∧ e.lastHeard = true) then 4 else 0) else 0
theorem ready_ok (e : End) (hs : e.small) : Pure 22 [e.v] (.pv (int e.ready)) := by
  refine fn_of_vc tab_ok mixed Try.call22 Try.func22 rfl [] _ _ (by kernel_rfl) rfl rfl rfl ?_
  repeat' ((conv => whnf); first
      | (refine goP (endOk_ok e hs) ?_)
      | (split <;> rename_i hq <;> (try simp only [Bool.not_eq_eq_eq_not, Bool.not_true, Bool.not_false, decide_eq_true_eq, decide_eq_false_iff_not, inB_t, inB_f, bytes_len, List.length_map, Bool.and_eq_true, Bool.and_eq_false_iff, and_true] at hq) <;> (try (exfalso; first | omega | (simp_all; done))))
      | (refine goW (by first | omega | (simp; omega)) (by first | omega | (simp; omega)) ?_)
      | (refine ret1 (by rfl) (by rfl) (outB ?_); first | rfl | grind [End.ready])
      | (refine ret1 (by rfl) (by rfl) (outI ?_); first | rfl | omega | grind [End.ready])
      | (refine ret1 (by rfl) (by rfl) (outB ?_)) | (refine ret1 (by rfl) (by rfl) (outI ?_)))
  all_goals (conv => whnf)
  all_goals
    refine ⟨[0, 1, 2, 3, 4, 5, 6, 13, 14, 15, 30, 7, 8, 9, 10, 11, 12, 16, 17, 18, 19, 20, 21, 22, 23, 24, 25, 26, 27, 28, 29, 31, 32, 33, 34, 35, 36, 37, 38, 39, 40, 41], [(2, [1]), (6, [1]), (14, [1]), (18, [1]), (24, [1]), (32, [1]), (36, [1])], (by kernel_rfl), ?_⟩
    (conv => whnf)
    repeat' ((conv => whnf); first
        | (refine goP (over_ok e) ?_)
        | (refine goP (bit_ok _ _) ?_)
        | (split <;> rename_i hq <;> (try simp only [Bool.not_eq_eq_eq_not, Bool.not_true, Bool.not_false, decide_eq_true_eq, decide_eq_false_iff_not, inB_t, inB_f, bytes_len, List.length_map, Bool.and_eq_true, Bool.and_eq_false_iff, and_true] at hq) <;> (try (exfalso; first | omega | (simp_all; done))))
        | (refine goW (by first | omega | (simp; omega)) (by first | omega | (simp; omega)) ?_)
        | (refine ret1 (by rfl) (by rfl) (outB ?_); first | rfl | grind [End.ready, bytes_len])
        | (refine ret1 (by rfl) (by rfl) (outI ?_); first | rfl | omega | grind [End.ready, bytes_len])
        | (refine ret1 (by rfl) (by rfl) (outB ?_)) | (refine ret1 (by rfl) (by rfl) (outI ?_)))
theorem ready_ok' (e : End) (hs : e.small) : Pure 46 [e.v] (.pv (int e.ready)) := by
  refine fn_of_vc tab_ok mixed Try.call46 Try.func46 rfl [] _ _ (by kernel_rfl) rfl rfl rfl ?_
  repeat' ((conv => whnf); first
      | (refine goP (endOk_ok' e hs) ?_)
      | (refine goP (endOver_ok' e hs) ?_)
      | (split <;> rename_i hq <;> (try simp only [Bool.not_eq_eq_eq_not, Bool.not_true, Bool.not_false, decide_eq_true_eq, decide_eq_false_iff_not, inB_t, inB_f, bytes_len, List.length_map, Bool.and_eq_true, Bool.and_eq_false_iff, and_true] at hq) <;> (try (exfalso; first | omega | (simp_all; done))))
      | (refine goW (by first | omega | (simp; omega)) (by first | omega | (simp; omega)) ?_)
      | (refine ret1 (by rfl) (by rfl) (outB ?_); first | rfl | grind [End.ready, bytes_len])
      | (refine ret1 (by rfl) (by rfl) (outI ?_); first | rfl | omega | grind [End.ready, bytes_len])
      | (refine ret1 (by rfl) (by rfl) (outB ?_)) | (refine ret1 (by rfl) (by rfl) (outI ?_)))
end Go.Proofs.Ytpeejmolbmhjjaa.Sx
