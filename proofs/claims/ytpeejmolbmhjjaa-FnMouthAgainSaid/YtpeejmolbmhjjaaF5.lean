/- What EndOk comes to; there is no condition beyond those each statement names. -/
import Derived.Test.YtpeejmolbmhjjaaF4
namespace Go.Proofs.Ytpeejmolbmhjjaa.Sx
set_option linter.unusedSimpArgs false
set_option linter.unusedVariables false
open Go
set_option maxRecDepth 100000
/-- No list is long. -/
structure End.small (e : End) : Prop where
  keep : e.out.keep.length < 1100000
  early : e.out.early.length < 1100000
  got : e.inn.got.length < 1100000
  far : e.inn.far.length < 1100000
def Ear.under (e : Ear) (n : Int) : Prop := ∀ j, j < e.far.length → (e.fa j).pl < n
instance (e : Ear) (n : Int) : Decidable (e.under n) := by unfold Ear.under; infer_instance
def End.lastP (e : End) : Prop := ¬(e.lastHeard = true ∧ e.lastTold = false) ∧ (e.lastTold = true → e.closed = true ∧ e.out.sent = e.out.keep.length ∧ 4 ≤ e.state) ∧
  (e.peerLast = -1 ∨ e.inn.under e.peerLast ∧ (e.inn.next ≤ e.peerLast ∧ e.peerLast ≤ 1000000) ∧ 4 ≤ e.state)
instance (e : End) : Decidable e.lastP := by unfold End.lastP; infer_instance
def End.goesP (e : End) : Prop := e.state = 2 ∨ e.state = 3 ∨ (e.state = 4 ∧ (0 < e.out.keep.length ∨ (e.lastTold = true ∧ e.lastHeard = false)))
instance (e : End) : Decidable e.goesP := by unfold End.goesP; infer_instance
theorem goes_ok (e : End) : Pure 100 [e.v] (.pv (bool (decide e.goesP))) := by
  refine fn_of_vc tab_ok mixed Try.call100 Try.func100 rfl [] _ _ (by kernel_rfl) rfl rfl rfl ?_
  repeat' ((conv => whnf); first
      | (fail)
      | (split <;> rename_i hq <;> (try simp only [Bool.not_eq_eq_eq_not, Bool.not_true, Bool.not_false, decide_eq_true_eq, decide_eq_false_iff_not, inB_t, inB_f, bytes_len, List.length_map, Bool.and_eq_true, Bool.and_eq_false_iff, and_true] at hq) <;> (try (exfalso; first | omega | (simp_all; done))))
      | (refine goW (by first | omega | (simp; omega)) (by first | omega | (simp; omega)) ?_)
      | (refine ret1 (by rfl) (by rfl) (outB ?_); first | rfl | grind [End.goesP, inB, bytes_len])
      | (refine ret1 (by rfl) (by rfl) (outI ?_); first | rfl | omega | grind [End.goesP, inB, bytes_len])
      | (refine ret1 (by rfl) (by rfl) (outB ?_)) | (refine ret1 (by rfl) (by rfl) (outI ?_)))
theorem open_ok (e : End) (h : 0 ≤ e.out.sent ∧ e.out.sent ≤ e.out.keep.length) : Pure 112 [e.v] (.pv (bool (decide e.goesP))) := by
  refine fn_of_vc tab_ok mixed Try.call112 Try.func112 rfl [] _ _ (by kernel_rfl) rfl rfl rfl ?_
  repeat' ((conv => whnf); first
      | (fail)
      | (split <;> rename_i hq <;> (try simp only [Bool.not_eq_eq_eq_not, Bool.not_true, Bool.not_false, decide_eq_true_eq, decide_eq_false_iff_not, inB_t, inB_f, bytes_len, List.length_map, Bool.and_eq_true, Bool.and_eq_false_iff, and_true] at hq) <;> (try (exfalso; first | omega | (simp_all; done))))
      | (refine goW (by first | omega | (simp; omega)) (by first | omega | (simp; omega)) ?_)
      | (refine ret1 (by rfl) (by rfl) (outB ?_); first | rfl | grind [End.goesP, inB, bytes_len])
      | (refine ret1 (by rfl) (by rfl) (outI ?_); first | rfl | omega | grind [End.goesP, inB, bytes_len])
      | (refine ret1 (by rfl) (by rfl) (outB ?_)) | (refine ret1 (by rfl) (by rfl) (outI ?_)))
theorem nLast {e : End} {k : Nat} (hlt : k < e.inn.far.length) (h : ¬ e.peerLast = -1) (h2 : e.peerLast ≤ (e.inn.fa k).pl) : false = decide e.lastP := by
  symm; apply decide_eq_false
  rintro ⟨_, _, h3⟩
  rcases h3 with h3 | ⟨h3, _⟩
  · exact h h3
  · have := h3 k hlt; omega
theorem lastOk_ok (e : End) (hs : e.small) : Pure 99 [e.v] (.pv (bool (decide e.lastP))) := by
  refine fn_of_vc tab_ok mixed Try.call99 Try.func99 rfl [] _ _ (by kernel_rfl) rfl rfl rfl ?_
  repeat' ((conv => whnf); first
      | (refine goP (in_ok _ _ _) ?_)
      | (split <;> rename_i hq <;> (try simp only [Bool.not_eq_eq_eq_not, Bool.not_true, Bool.not_false, decide_eq_true_eq, decide_eq_false_iff_not, inB_t, inB_f, bytes_len, List.length_map, Bool.and_eq_true, Bool.and_eq_false_iff, and_true] at hq) <;> (try (exfalso; first | omega | (simp_all; done))))
      | (refine goW (by first | omega | (simp; omega)) (by first | omega | (simp; omega)) ?_)
      | (refine ret1 (by rfl) (by rfl) (outB ?_); first | rfl | grind [End.lastP, inB])
      | (refine ret1 (by rfl) (by rfl) (outI ?_); first | rfl | omega | grind [End.lastP, inB])
      | (refine ret1 (by rfl) (by rfl) (outB ?_)) | (refine ret1 (by rfl) (by rfl) (outI ?_)))
  all_goals
    (conv => whnf)
    have hA : ¬(e.lastHeard = true ∧ e.lastTold = false) ∧ (e.lastTold = true → e.closed = true ∧ e.out.sent = e.out.keep.length ∧ 4 ≤ e.state) := by grind
    have hfs := hs.far
    refine ⟨Nat, fun x => x ≤ e.inn.far.length ∧ ∀ j, j < x → (e.inn.fa j).pl < e.peerLast, fun x => ⟨[(1, .one (.ptr 1 0)), (2, .one (.b false)), (41, .one (.lst 0 0 138 (e.inn.far.map Early.c))), (42, .one (.i .i64 (e.inn.far.map Early.c).length)), (43, .one (.i .i64 x))], [(1, e.c)], [(1, 0)], [1], [1]⟩, fun x => e.inn.far.length - x, 0, fun x => rfl, ?_, (by refine ⟨?_, ?_, ?_⟩ <;> repeat' (first | exact trivial | refine ⟨rfl, ?_⟩)), ?_⟩
    · exact ⟨by omega, fun j hj => by omega⟩
    rintro k ⟨hk, hinv⟩
    (conv => whnf); split <;> rename_i h4 <;> simp only [decide_eq_true_eq, decide_eq_false_iff_not, List.length_map] at h4
    case h_2 =>
      have hke : k = e.inn.far.length := by omega
      subst hke
      have hB : e.inn.under e.peerLast := hinv
      repeat' ((conv => whnf); first
          | (refine goP (in_ok _ _ _) ?_)
          | (split <;> rename_i hq <;> (try simp only [Bool.not_eq_eq_eq_not, Bool.not_true, Bool.not_false, decide_eq_true_eq, decide_eq_false_iff_not, inB_t, inB_f, bytes_len, List.length_map, Bool.and_eq_true, Bool.and_eq_false_iff, and_true] at hq) <;> (try (exfalso; first | omega | (simp_all; done))))
          | (refine goW (by first | omega | (simp; omega)) (by first | omega | (simp; omega)) ?_)
          | (refine ret1 (by rfl) (by rfl) (outB ?_); first | rfl | grind [End.lastP, inB])
          | (refine ret1 (by rfl) (by rfl) (outI ?_); first | rfl | omega | grind [End.lastP, inB])
          | (refine ret1 (by rfl) (by rfl) (outB ?_)) | (refine ret1 (by rfl) (by rfl) (outI ?_)))
    have hlt : k < e.inn.far.length := by omega
    (conv => whnf)
    refine goIdx (e.inn.fa k).c (by omega) rfl (by simpa using far_get hlt) ?_
    repeat' ((conv => whnf); first
        | (refine ret1 (by rfl) (by rfl) (outB (nLast hlt (by omega) (by omega))))
        | (split <;> rename_i hq <;> (try simp only [Bool.not_eq_eq_eq_not, Bool.not_true, Bool.not_false, decide_eq_true_eq, decide_eq_false_iff_not, inB_t, inB_f, bytes_len, List.length_map, Bool.and_eq_true, Bool.and_eq_false_iff, and_true] at hq) <;> (try (exfalso; first | omega | (simp_all; done))))
        | (refine goW (by first | omega | (simp; omega)) (by first | omega | (simp; omega)) ?_)
        | (refine ret1 (by rfl) (by rfl) (outB ?_); first | rfl | grind [inB])
        | (refine ret1 (by rfl) (by rfl) (outI ?_); first | rfl | omega | grind [inB])
        | (refine ret1 (by rfl) (by rfl) (outB ?_)) | (refine ret1 (by rfl) (by rfl) (outI ?_)))
    (conv => whnf)
    refine ⟨k + 1, ?_, (by refine ⟨?_, ?_, ?_⟩ <;> repeat' (first | exact trivial | refine ⟨rfl, ?_⟩)), ?_⟩
    · refine ⟨by omega, fun j hj => ?_⟩
      by_cases hjk : j = k
      · subst hjk; omega
      · exact hinv j (by omega)
    · show e.inn.far.length - (k + 1) < e.inn.far.length - k; omega
end Go.Proofs.Ytpeejmolbmhjjaa.Sx
