/- What EndOk of spec comes to; there is no condition beyond those each statement names. -/
import Derived.Test.YtpeejmolbmhjjaaF6
namespace Go.Proofs.Ytpeejmolbmhjjaa.Sx
set_option linter.unusedSimpArgs false
set_option linter.unusedVariables false
open Go
set_option maxRecDepth 100000
set_option maxHeartbeats 0
theorem Ear.ok_inc {e : Ear} (h : e.ok = true) : ∀ (j k : Nat), j ≤ k → k < e.far.length → (e.fa j).pl ≤ (e.fa k).pl := by
  have h2 : ∀ k, k < e.far.length → e.okAt k = true := by
    simp only [Ear.ok, Bool.and_eq_true, List.all_eq_true, List.mem_range] at h
    exact h.2
  intro j k hjk
  induction k with
  | zero => intro hk; obtain rfl : j = 0 := by omega
            exact Int.le_refl _
  | succ k ih =>
    intro hk
    rcases Nat.lt_or_ge j (k + 1) with hj | hj
    · have h3 := h2 (k + 1) hk
      simp [Ear.okAt] at h3
      have := ih (by omega) (by omega)
      omega
    · obtain rfl : j = k + 1 := by omega
      exact Int.le_refl _
theorem under_last {e : Ear} (h : e.ok = true) (n : Int) : e.under n ↔ (e.far.length = 0 ∨ (e.fa (e.far.length - 1)).pl < n) := by
  constructor
  · intro hu
    rcases Nat.eq_zero_or_pos e.far.length with h0 | h0
    · exact .inl h0
    · exact .inr (hu _ (by omega))
  · rintro (h0 | h0) j hj
    · omega
    · have := Ear.ok_inc h j (e.far.length - 1) (by omega) (by omega); omega
theorem far_last {e : Ear} (h : 0 < e.far.length) : (e.far.map Early.c)[(((e.far.map Early.c).length : Int) - 1).toNat]? = some (e.fa (e.far.length - 1)).c := by
  rw [show (((e.far.map Early.c).length : Int) - 1).toNat = e.far.length - 1 by simp]
  exact far_get (by omega)
theorem Mouth.sentP {m : Mouth} (h : m.ok = true) : 0 ≤ m.sent ∧ m.sent ≤ m.keep.length := (of_decide_eq_true h).1.2.2.1
theorem endOk_ok' (e : End) (hs : e.small) : Pure 42 [e.v] (.pv (bool (decide e.okP))) := by
  have hfs := hs.far
  have hgs := hs.got
  have hks := hs.keep
  have hes := hs.early
  have hul := @under_last e.inn
  have hsp := @Mouth.sentP e.out
  refine fn_of_vc tab_ok mixed Try.call42 Try.func42 rfl [] _ _ (by kernel_rfl) rfl rfl rfl ?_
  repeat' ((conv => whnf); first
      | (refine goP (l1In_ok _ _ _) ?_)
      | (refine goP (mouthOk_ok' e.out (by omega) (by omega)) ?_)
      | (refine goP (earOk_ok' e.inn (by omega) (by omega)) ?_)
      | (refine goP (clockOk_ok' e.pulse) ?_)
      | (refine goP (open_ok e (Mouth.sentP (by assumption))) ?_)
      | (split <;> rename_i hq <;> (try simp only [Bool.not_eq_eq_eq_not, Bool.not_true, Bool.not_false, decide_eq_true_eq, decide_eq_false_iff_not, inB_t, inB_f, bytes_len, List.length_map, Bool.and_eq_true, Bool.and_eq_false_iff, and_true] at hq) <;> (try (exfalso; first | omega | (simp_all; done))))
      | (refine goW (by first | omega | (simp; omega)) (by first | omega | (simp; omega)) ?_)
      | (refine ret1 (by rfl) (by rfl) (outB ?_); first | rfl | grind [End.okP, inB, End.lastP])
      | (refine ret1 (by rfl) (by rfl) (outI ?_); first | rfl | omega | grind [End.okP, inB, End.lastP])
      | (refine ret1 (by rfl) (by rfl) (outB ?_)) | (refine ret1 (by rfl) (by rfl) (outI ?_)))
  all_goals (conv => whnf)
  all_goals
    have hA : e.okP ↔ (e.peerLast = -1 ∨ ((e.inn.far.length = 0 ∨ (e.inn.fa (e.inn.far.length - 1)).pl < e.peerLast) ∧ e.inn.next ≤ e.peerLast ∧ e.peerLast ≤ 1000000)) := by grind [End.okP, End.lastP]
    refine ⟨[0, 1, 2, 3, 4, 5, 6, 7, 8, 9, 10, 11, 12, 13, 14, 15, 16, 17, 18, 19], [(4, [1]), (10, [1]), (17, [1])], (by kernel_rfl), ?_⟩
    (conv => whnf)
    repeat' ((conv => whnf); first
        | (refine goP (l1In_ok _ _ _) ?_)
        | (refine goIdx (e.inn.fa (e.inn.far.length - 1)).c (by simp; omega) rfl (far_last (by omega)) ?_)
        | (refine ret1 (by rfl) (by rfl) (outB ?_); clear hul hsp hs; first | (symm; apply decide_eq_false; rw [hA]; omega) | (symm; apply decide_eq_true; rw [hA]; omega) | (simp only [hA]; grind [inB]))
        | (split <;> rename_i hq <;> (try simp only [Bool.not_eq_eq_eq_not, Bool.not_true, Bool.not_false, decide_eq_true_eq, decide_eq_false_iff_not, inB_t, inB_f, bytes_len, List.length_map, Bool.and_eq_true, Bool.and_eq_false_iff, and_true] at hq) <;> (try (exfalso; first | omega | (simp_all; done))))
        | (refine goW (by first | omega | (simp; omega)) (by first | omega | (simp; omega)) ?_)
        | (refine ret1 (by rfl) (by rfl) (outB ?_); first | rfl | grind [inB])
        | (refine ret1 (by rfl) (by rfl) (outI ?_); first | rfl | omega | grind [inB])
        | (refine ret1 (by rfl) (by rfl) (outB ?_)) | (refine ret1 (by rfl) (by rfl) (outI ?_)))
end Go.Proofs.Ytpeejmolbmhjjaa.Sx
