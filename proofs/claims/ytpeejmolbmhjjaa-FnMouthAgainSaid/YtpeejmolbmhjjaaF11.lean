/- New ends, and that a thing is the same as itself; there is no condition beyond those each statement names. -/
import Derived.Test.YtpeejmolbmhjjaaF10
namespace Go.Proofs.Ytpeejmolbmhjjaa.Sx
set_option linter.unusedSimpArgs false
set_option linter.unusedVariables false
open Go
set_option maxRecDepth 100000
set_option maxHeartbeats 0
def zeroEnd : End := ⟨0, 0, 0, 0, 0, 0, ⟨0, [], 0, 0, []⟩, ⟨0, 0, [], []⟩, false, false, false, 0, 0, 0, ⟨0, 0, 0⟩⟩
def newEnd (a b c d : Int) : End := ⟨0, a, b, 0, 0, c, ⟨c + 1, [], 0, 0, []⟩, ⟨0, d, [], []⟩, false, false, false, -1, 0, 0, ⟨0, 0, 24⟩⟩
def newP (a b c d : Int) : Prop := (0 ≤ a ∧ a ≤ 65535) ∧ (1 ≤ b ∧ b ≤ 255) ∧ (0 ≤ c ∧ c ≤ 65535) ∧ (1 ≤ d ∧ d ≤ 32)
instance (a b c d : Int) : Decidable (newP a b c d) := by unfold newP; infer_instance
def theNew (a b c d : Int) : End := if newP a b c d then newEnd a b c d else zeroEnd
theorem newEnd_small (a b c d : Int) : (newEnd a b c d).small := ⟨by simp [newEnd], by simp [newEnd], by simp [newEnd], by simp [newEnd]⟩
theorem zeroEnd_small : zeroEnd.small := ⟨by simp [zeroEnd], by simp [zeroEnd], by simp [zeroEnd], by simp [zeroEnd]⟩
theorem newEnd_ok (a b c d : Int) : (newEnd a b c d).okP ↔ newP a b c d := by
  show End.okP ⟨0, a, b, 0, 0, c, ⟨c + 1, [], 0, 0, []⟩, ⟨0, d, [], []⟩, false, false, false, -1, 0, 0, ⟨0, 0, 24⟩⟩ ↔ _
  have h1 : Mouth.ok ⟨c + 1, [], 0, 0, []⟩ = decide (0 ≤ c + 1 ∧ c + 1 ≤ 1000000) := by
    rw [Mouth.ok, decide_eq_decide]; simp [Mouth.base, okR]
  have h2 : Ear.ok ⟨0, d, [], []⟩ = decide (1 ≤ d ∧ d ≤ 32) := by
    rw [Bool.eq_iff_iff]; simp only [Ear.ok, inB]; simp; omega
  simp only [End.okP, h1, h2, newP, decide_eq_true_eq]
  simp [Clock.ok, inB, End.lastP, End.goesP]
  omega
theorem zeroEnd_not : ¬ zeroEnd.okP := by simp [zeroEnd, End.okP]
theorem endNew_ok (a b c d : Int) : Pure 33 [int a, int b, int c, int d] (.pv (theNew a b c d).v) := by
  refine fn_of_vc tab_ok mixed Try.call33 Try.func33 rfl [] _ _ (by kernel_rfl) rfl rfl rfl ?_
  repeat' ((conv => whnf); first
      | (refine goP (in_ok _ _ _) ?_)
      | (refine goP (word_ok _) ?_)
      | (refine goP (portOk_ok _) ?_)
      | (refine goP (clockNew_ok _) ?_)
      | (split <;> rename_i hq <;> (try simp only [Bool.not_eq_eq_eq_not, Bool.not_true, Bool.not_false, decide_eq_true_eq, decide_eq_false_iff_not, inB_t, inB_f, bytes_len, List.length_map, Bool.and_eq_true, Bool.and_eq_false_iff, and_true] at hq) <;> (try (exfalso; first | omega | (simp_all; done))))
      | (refine goW (by first | omega | (simp; omega)) (by first | omega | (simp; omega)) ?_)
      | (refine ret1 (by rfl) (by rfl) (outB ?_); first | rfl | grind [inB])
      | (refine ret1 (by rfl) (by rfl) (outI ?_); first | rfl | omega | grind [inB])
      | (refine ret1 (by rfl) (by rfl) (outB ?_)) | (refine ret1 (by rfl) (by rfl) (outI ?_)))
  all_goals (conv => whnf)
  all_goals first
    | (have hn : theNew a b c d = zeroEnd := if_neg (by unfold newP; omega)
       rw [hn]; exact ret1 (by rfl) (by rfl) (by rfl))
    | (have hn : theNew a b c d = newEnd a b c d := if_pos (by unfold newP; omega)
       rw [hn]; exact ret1 (by rfl) (by rfl) (by rfl))
theorem endNew_ok' (a b c d : Int) (hc : -1000000000 ≤ c ∧ c ≤ 1000000000) : Pure 35 [int a, int b, int c, int d] (.pv (theNew a b c d).v) := by
  refine fn_of_vc tab_ok mixed Try.call35 Try.func35 rfl [] _ _ (by kernel_rfl) rfl rfl rfl ?_
  repeat' ((conv => whnf); first
      | (refine goP (clockNew_ok' _) ?_)
      | (refine goP (endOk_ok' (newEnd a b c d) (newEnd_small a b c d)) ?_)
      | (split <;> rename_i hq <;> (try simp only [Bool.not_eq_eq_eq_not, Bool.not_true, Bool.not_false, decide_eq_true_eq, decide_eq_false_iff_not, inB_t, inB_f, bytes_len, List.length_map, Bool.and_eq_true, Bool.and_eq_false_iff, and_true] at hq) <;> (try (exfalso; first | omega | (simp_all; done))))
      | (refine goW (by first | omega | (simp; omega)) (by first | omega | (simp; omega)) ?_)
      | (refine ret1 (by rfl) (by rfl) (outB ?_); first | rfl | grind [inB])
      | (refine ret1 (by rfl) (by rfl) (outI ?_); first | rfl | omega | grind [inB])
      | (refine ret1 (by rfl) (by rfl) (outB ?_)) | (refine ret1 (by rfl) (by rfl) (outI ?_)))
  all_goals (conv => whnf)
  all_goals first
    | (have hn : theNew a b c d = zeroEnd := if_neg (by rw [← newEnd_ok]; exact hq)
       rw [hn]; exact ret1 (by rfl) (by rfl) (by rfl))
    | (have hn : theNew a b c d = newEnd a b c d := if_pos (by rw [← newEnd_ok]; exact hq)
       rw [hn]; exact ret1 (by rfl) (by rfl) (by rfl))
theorem Ear.roomP {e : Ear} (h : e.ok = true) : 1 ≤ e.room ∧ e.room ≤ 32 := by
  simp only [Ear.ok, Bool.and_eq_true, inB_iff] at h; exact h.1.1.2
theorem earFree_ok (e : Ear) (hl : e.far.length < 1000000000) (hg : e.got.length < 1000000000) : Pure 37 [e.v] (.pv (int (if e.ok then e.room - e.got.length else 0))) := by
  refine fn_of_vc tab_ok mixed Try.call37 Try.func37 rfl [] _ _ (by kernel_rfl) rfl rfl rfl ?_
  have hr := @Ear.roomP e
  repeat' ((conv => whnf); first
      | (refine goP (earOk_ok e hl hg) ?_)
      | ((have := hr hq; refine goP (free_ok e (by omega) (by omega) hg) ?_))
      | (split <;> rename_i hq <;> (try simp only [Bool.not_eq_eq_eq_not, Bool.not_true, Bool.not_false, decide_eq_true_eq, decide_eq_false_iff_not, inB_t, inB_f, bytes_len, List.length_map, Bool.and_eq_true, Bool.and_eq_false_iff, and_true] at hq) <;> (try (exfalso; first | omega | (simp_all; done))))
      | (refine goW (by first | omega | (simp; omega)) (by first | omega | (simp; omega)) ?_)
      | (refine ret1 (by rfl) (by rfl) (outB ?_); first | rfl | grind [inB])
      | (refine ret1 (by rfl) (by rfl) (outI ?_); first | rfl | omega | grind [inB])
      | (refine ret1 (by rfl) (by rfl) (outB ?_)) | (refine ret1 (by rfl) (by rfl) (outI ?_)))
theorem sameBytes_ok (l : List Int) : Pure 69 [(false, [.lst 0 0 5 (bytes l)]), (false, [.lst 0 0 5 (bytes l)])] (.pv (bool true)) := by
  have hb : ∀ (xs : List AV), xs ∈ bytes l → ∃ n, xs = [AV.i IntKind.u8 n] := by
    intro xs hx
    simp only [bytes, List.mem_map] at hx
    obtain ⟨n, _, rfl⟩ := hx
    exact ⟨n, rfl⟩
  refine fn_of_vc tab_ok mixed Try.call69 Try.func69 rfl [] _ _ (by kernel_rfl) rfl rfl rfl ?_
  (conv => whnf); refine ⟨hb, ?_⟩
  (conv => whnf); refine ⟨hb, ?_⟩
  (conv => whnf)
  refine ret1 (by rfl) (by rfl) (outB ?_)
  simp
theorem sameMouth_ok (m : Mouth) (he : m.early.length < 1100000) : Pure 94 [m.v, m.v] (.pv (bool true)) := by
  refine fn_of_vc tab_ok mixed Try.call94 Try.func94 rfl [] _ _ (by kernel_rfl) rfl rfl rfl ?_
  repeat' ((conv => whnf); first
      | (refine goP (sameBytes_ok m.keep) ?_)
      | (refine goP (sameR_ok m.early m.early (by omega) (by omega)) ?_)
      | (split <;> rename_i hq <;> (try simp only [Bool.not_eq_eq_eq_not, Bool.not_true, Bool.not_false, decide_eq_true_eq, decide_eq_false_iff_not, inB_t, inB_f, bytes_len, List.length_map, Bool.and_eq_true, Bool.and_eq_false_iff, and_true] at hq) <;> (try (exfalso; first | omega | (simp_all; done))))
      | (refine goW (by first | omega | (simp; omega)) (by first | omega | (simp; omega)) ?_)
      | (refine ret1 (by rfl) (by rfl) (outB ?_); first | rfl | grind [inB])
      | (refine ret1 (by rfl) (by rfl) (outI ?_); first | rfl | omega | grind [inB])
      | (refine ret1 (by rfl) (by rfl) (outB ?_)) | (refine ret1 (by rfl) (by rfl) (outI ?_)))
theorem sameEar_ok (e : Ear) (he : e.far.length < 1100000) : Pure 95 [e.v, e.v] (.pv (bool true)) := by
  refine fn_of_vc tab_ok mixed Try.call95 Try.func95 rfl [] _ _ (by kernel_rfl) rfl rfl rfl ?_
  repeat' ((conv => whnf); first
      | (refine goP (sameBytes_ok e.got) ?_)
      | (split <;> rename_i hq <;> (try simp only [Bool.not_eq_eq_eq_not, Bool.not_true, Bool.not_false, decide_eq_true_eq, decide_eq_false_iff_not, inB_t, inB_f, bytes_len, List.length_map, Bool.and_eq_true, Bool.and_eq_false_iff, and_true] at hq) <;> (try (exfalso; first | omega | (simp_all; done))))
      | (refine goW (by first | omega | (simp; omega)) (by first | omega | (simp; omega)) ?_)
      | (refine ret1 (by rfl) (by rfl) (outB ?_); first | rfl | grind [inB])
      | (refine ret1 (by rfl) (by rfl) (outI ?_); first | rfl | omega | grind [inB])
      | (refine ret1 (by rfl) (by rfl) (outB ?_)) | (refine ret1 (by rfl) (by rfl) (outI ?_)))
  all_goals (conv => whnf)
  refine ⟨Nat, fun x => x ≤ e.far.length, fun x => ⟨[(2, .one (.ptr 2 0)), (3, .one (.ptr 3 0)), (5, .one (.i .i64 x))], [(2, e.c), (3, e.c)], [(1, 0)], [2,3], [1]⟩, fun x => e.far.length - x, 0, fun x => rfl, ?_, (by refine ⟨?_, ?_, ?_⟩ <;> repeat' (first | exact trivial | refine ⟨rfl, ?_⟩)), ?_⟩
  · show 0 ≤ e.far.length; omega
  rintro k hk
  (conv => whnf); split <;> rename_i h4 <;> simp only [decide_eq_true_eq, decide_eq_false_iff_not, List.length_map] at h4
  case h_2 =>
    (conv => whnf); refine ret1 (by rfl) (by rfl) (outB rfl)
  have hlt : k < e.far.length := by omega
  (conv => whnf)
  refine ⟨[0, 1, 2, 3, 4, 5, 6, 7, 8, 9, 10], [(1, [2]), (6, [3])], (by kernel_rfl), ?_⟩
  (conv => whnf)
  repeat' ((conv => whnf); first
      | (refine ⟨rfl, ?_⟩)
      | (refine goIdx (e.fa k).c (by omega) rfl (by simpa using far_get hlt) ?_)
      | (split <;> rename_i hq <;> (try simp only [Bool.not_eq_eq_eq_not, Bool.not_true, Bool.not_false, decide_eq_true_eq, decide_eq_false_iff_not, inB_t, inB_f, bytes_len, List.length_map, Bool.and_eq_true, Bool.and_eq_false_iff, and_true] at hq) <;> (try (exfalso; first | omega | (simp_all; done))))
      | (refine goW (by first | omega | (simp; omega)) (by first | omega | (simp; omega)) ?_)
      | (refine ret1 (by rfl) (by rfl) (outB ?_); first | rfl | grind [inB])
      | (refine ret1 (by rfl) (by rfl) (outI ?_); first | rfl | omega | grind [inB])
      | (refine ret1 (by rfl) (by rfl) (outB ?_)) | (refine ret1 (by rfl) (by rfl) (outI ?_)))
  all_goals (conv => whnf)
  refine ⟨k + 1, ?_, (by refine ⟨?_, ?_, ?_⟩ <;> repeat' (first | exact trivial | refine ⟨rfl, ?_⟩)), ?_⟩
  · show k + 1 ≤ e.far.length; omega
  · show e.far.length - (k + 1) < e.far.length - k; omega
theorem sameEnd_ok (e : End) (hs : e.small) : Pure 34 [e.v, e.v] (.pv (bool true)) := by
  have hfs := hs.far
  have hes := hs.early
  refine fn_of_vc tab_ok mixed Try.call34 Try.func34 rfl [] _ _ (by kernel_rfl) rfl rfl rfl ?_
  repeat' ((conv => whnf); first
      | (refine ⟨rfl, ?_⟩)
      | (refine goP (sameMouth_ok e.out (by omega)) ?_)
      | (refine goP (sameEar_ok e.inn (by omega)) ?_)
      | (split <;> rename_i hq <;> (try simp only [Bool.not_eq_eq_eq_not, Bool.not_true, Bool.not_false, decide_eq_true_eq, decide_eq_false_iff_not, inB_t, inB_f, bytes_len, List.length_map, Bool.and_eq_true, Bool.and_eq_false_iff, and_true] at hq) <;> (try (exfalso; first | omega | (simp_all; done))))
      | (refine goW (by first | omega | (simp; omega)) (by first | omega | (simp; omega)) ?_)
      | (refine ret1 (by rfl) (by rfl) (outB ?_); first | rfl | grind [inB])
      | (refine ret1 (by rfl) (by rfl) (outI ?_); first | rfl | omega | grind [inB])
      | (refine ret1 (by rfl) (by rfl) (outB ?_)) | (refine ret1 (by rfl) (by rfl) (outI ?_)))
end Go.Proofs.Ytpeejmolbmhjjaa.Sx
