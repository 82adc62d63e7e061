/- The law FnEndNew comes to true; there is no condition beyond those each statement names. -/
import Derived.Test.YtpeejmolbmhjjaaF11
namespace Go.Proofs.Ytpeejmolbmhjjaa.Sx
set_option linter.unusedSimpArgs false
set_option linter.unusedVariables false
open Go
set_option maxRecDepth 100000
set_option maxHeartbeats 0
theorem theNew_small (a b c d : Int) : (theNew a b c d).small := by
  unfold theNew; split
  · exact newEnd_small a b c d
  · exact zeroEnd_small
theorem theNew_state (a b c d : Int) : (theNew a b c d).state = 0 := by unfold theNew; split <;> rfl
theorem theNew_n (a b c d : Int) : (theNew a b c d).n ≠ 0 → newP a b c d := by
  unfold theNew; split
  · intro _; assumption
  · intro h; exact absurd rfl h
theorem theNew_pos {a b c d : Int} (h : newP a b c d) : theNew a b c d = newEnd a b c d := if_pos h
theorem law_endNew (l : List Int) (h2 : ∀ x ∈ l, 0 ≤ x ∧ x ≤ 255) : Pure 6 [(false, [.lst 0 0 5 (bytes l)])] (.pv (bool true)) := by
  refine fn_of_vc tab_ok mixed Try.call6 Try.func6 rfl [] _ _ (by kernel_rfl) rfl rfl rfl ?_
  (conv => whnf); split <;> rename_i hq
  · (conv => whnf); exact ret1 (by rfl) (by rfl) (by rfl)
  have hl : l.length ≤ 1048576 := by simp at hq; omega
  (conv => whnf)
  refine ⟨[], _, drawEndNew_r hl h2, trivial, ?_⟩
  rintro o ⟨a, b, c, d, ha, hb, hc, hd, rfl⟩ _
  (conv => whnf); refine goP (endNew_ok a b c d) ?_
  (conv => whnf)
  refine ⟨[0, 1, 2, 3, 4, 5, 6, 7], [(0, [7])], (by kernel_rfl), ?_⟩
  (conv => whnf)
  (conv => whnf); refine goP (endNew_ok' a b c d (by omega)) ?_
  (conv => whnf); refine goP (sameEnd_ok (theNew a b c d) (theNew_small a b c d)) ?_
  have hsm := theNew_small a b c d
  have hfs := hsm.far
  have hgs := hsm.got
  have hst := theNew_state a b c d
  have hk : ¬ (theNew a b c d).n = 0 → (theNew a b c d).okP ∧ (if (theNew a b c d).inn.ok = true then (theNew a b c d).inn.room - ↑(theNew a b c d).inn.got.length else 0) = d := by
    intro h
    have hp := theNew_n a b c d h
    have hok := (newEnd_ok a b c d).2 hp
    rw [theNew_pos hp]
    refine ⟨hok, ?_⟩
    rw [if_pos hok.2.2.2.2.2.2.2.2.1]
    simp [newEnd]
  repeat' ((conv => whnf); first
      | (refine goP (endOk_ok (theNew a b c d) hsm) ?_)
      | (refine goP (earFree_ok (theNew a b c d).inn (by omega) (by omega)) ?_)
      | (refine goP (endNew_ok 1 7 5 9) ?_)
      | (split <;> rename_i hq <;> (try simp only [Bool.not_eq_eq_eq_not, Bool.not_true, Bool.not_false, decide_eq_true_eq, decide_eq_false_iff_not, inB_t, inB_f, bytes_len, List.length_map, Bool.and_eq_true, Bool.and_eq_false_iff, and_true] at hq) <;> (try (exfalso; first | omega | (simp_all; done))))
      | (refine goW (by first | omega | (simp; omega)) (by first | omega | (simp; omega)) ?_)
      | (refine ret1 (by rfl) (by rfl) (outB ?_); first | rfl | grind [inB])
      | (refine ret1 (by rfl) (by rfl) (outI ?_); first | rfl | omega | grind [inB])
      | (refine ret1 (by rfl) (by rfl) (outB ?_)) | (refine ret1 (by rfl) (by rfl) (outI ?_)))
end Go.Proofs.Ytpeejmolbmhjjaa.Sx
