/- What EndOk of impl comes to; there is no condition beyond those each statement names. -/
import Derived.Test.YtpeejmolbmhjjaaF5
namespace Go.Proofs.Ytpeejmolbmhjjaa.Sx
set_option linter.unusedSimpArgs false
set_option linter.unusedVariables false
open Go
set_option maxRecDepth 100000
def End.okP (e : End) : Prop := (0 ≤ e.state ∧ e.state ≤ 5) ∧ (0 ≤ e.addr ∧ e.addr ≤ 65535) ∧ (1 ≤ e.n ∧ e.n ≤ 255) ∧ (0 ≤ e.peerAddr ∧ e.peerAddr ≤ 65535) ∧ (0 ≤ e.peerN ∧ e.peerN ≤ 255) ∧ (0 ≤ e.base ∧ e.base ≤ 65535) ∧
  e.out.ok = true ∧ e.base + 1 ≤ e.out.heard ∧ e.inn.ok = true ∧ e.pulse.ok = true ∧ (0 ≤ e.due ∧ e.due ≤ 1000000) ∧ (0 ≤ e.tries ∧ e.tries ≤ 8) ∧ e.lastP ∧
  (e.state < 4 → e.out.sent = 0 ∧ e.out.heard = e.base + 1) ∧ (e.peerN = 0 ↔ e.state = 0 ∨ e.state = 1) ∧ (e.goesP ∨ (e.due = 0 ∧ (e.tries = 0 ∨ e.state = 5)))
instance (e : End) : Decidable e.okP := by unfold End.okP; infer_instance
theorem endOk_ok (e : End) (hs : e.small) : Pure 36 [e.v] (.pv (bool (decide e.okP))) := by
  have hfs := hs.far
  have hgs := hs.got
  have hks := hs.keep
  have hes := hs.early
  refine fn_of_vc tab_ok mixed Try.call36 Try.func36 rfl [] _ _ (by kernel_rfl) rfl rfl rfl ?_
  repeat' ((conv => whnf); first
      | (refine goP (in_ok _ _ _) ?_)
      | (refine goP (word_ok _) ?_)
      | (refine goP (portOk_ok _) ?_)
      | (refine goP (mouthOk_ok e.out (by omega) (by omega)) ?_)
      | (refine goP (earOk_ok e.inn (by omega) (by omega)) ?_)
      | (refine goP (clockOk_ok e.pulse) ?_)
      | (refine goP (lastOk_ok e hs) ?_)
      | (refine goP (goes_ok e) ?_)
      | (split <;> rename_i hq <;> (try simp only [Bool.not_eq_eq_eq_not, Bool.not_true, Bool.not_false, decide_eq_true_eq, decide_eq_false_iff_not, inB_t, inB_f, bytes_len, List.length_map, Bool.and_eq_true, Bool.and_eq_false_iff, and_true] at hq) <;> (try (exfalso; first | omega | (simp_all; done))))
      | (refine goW (by first | omega | (simp; omega)) (by first | omega | (simp; omega)) ?_)
      | (refine ret1 (by rfl) (by rfl) (outB ?_); first | rfl | grind [End.okP, inB])
      | (refine ret1 (by rfl) (by rfl) (outI ?_); first | rfl | omega | grind [End.okP, inB])
      | (refine ret1 (by rfl) (by rfl) (outB ?_)) | (refine ret1 (by rfl) (by rfl) (outI ?_)))
end Go.Proofs.Ytpeejmolbmhjjaa.Sx
