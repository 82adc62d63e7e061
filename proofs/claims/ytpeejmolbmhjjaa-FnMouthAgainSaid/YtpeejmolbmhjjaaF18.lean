/- How much an end holds, and that the laws find a thing the same as itself; there is no condition beyond those each statement names. -/
import Derived.Test.YtpeejmolbmhjjaaF17
namespace Go.Proofs.Ytpeejmolbmhjjaa.Sx
set_option linter.unusedSimpArgs false
set_option linter.unusedVariables false
open Go
set_option maxRecDepth 100000
set_option maxHeartbeats 0
def szT (left : Int) (n : Nat) : Int := if left < n then -1 else left - n
theorem szByteS_ok (l : List Int) (left : Int) (h0 : 0 ≤ left ∧ left ≤ 1048576) (hl : l.length ≤ 9223372036854775807) : Pure 129 [(false, [.lst 0 0 5 (bytes l)]), int left] (.pv (int (szT left l.length))) := by
  refine fn_of_vc tab_ok mixed Try.call129 Try.func129 rfl [] _ _ (by kernel_rfl) rfl rfl rfl ?_
  repeat' ((conv => whnf); first
      | (fail)
      | (split <;> rename_i hq <;> (try simp only [Bool.not_eq_eq_eq_not, Bool.not_true, Bool.not_false, decide_eq_true_eq, decide_eq_false_iff_not, inB_t, inB_f, bytes_len, List.length_map, Bool.and_eq_true, Bool.and_eq_false_iff, and_true] at hq) <;> (try (exfalso; first | omega | (simp_all; done))))
      | (refine goW (by first | omega | (simp; omega)) (by first | omega | (simp; omega)) ?_)
      | (refine ret1 (by rfl) (by rfl) (outB ?_); first | rfl | grind [szT, bytes_len])
      | (refine ret1 (by rfl) (by rfl) (outI ?_); first | rfl | omega | grind [szT, bytes_len])
      | (refine ret1 (by rfl) (by rfl) (outB ?_)) | (refine ret1 (by rfl) (by rfl) (outI ?_)))
theorem szRangeS_ok (l : List Rng) (left : Int) (h0 : 0 ≤ left ∧ left ≤ 1048576) (hl : l.length ≤ 9223372036854775807) : Pure 130 [(false, [.lst 0 0 189 (l.map Rng.c)]), int left] (.pv (int (szT left l.length))) := by
  refine fn_of_vc tab_ok mixed Try.call130 Try.func130 rfl [] _ _ (by kernel_rfl) rfl rfl rfl ?_
  repeat' ((conv => whnf); first
      | (fail)
      | (split <;> rename_i hq <;> (try simp only [Bool.not_eq_eq_eq_not, Bool.not_true, Bool.not_false, decide_eq_true_eq, decide_eq_false_iff_not, inB_t, inB_f, bytes_len, List.length_map, Bool.and_eq_true, Bool.and_eq_false_iff, and_true] at hq) <;> (try (exfalso; first | omega | (simp_all; done))))
      | (refine goW (by first | omega | (simp; omega)) (by first | omega | (simp; omega)) ?_)
      | (refine ret1 (by rfl) (by rfl) (outB ?_); first | rfl | grind [szT])
      | (refine ret1 (by rfl) (by rfl) (outI ?_); first | rfl | omega | grind [szT])
      | (refine ret1 (by rfl) (by rfl) (outB ?_)) | (refine ret1 (by rfl) (by rfl) (outI ?_)))
theorem szEarlyS_ok (l : List Early) (left : Int) (h0 : 0 ≤ left ∧ left ≤ 1048576) (hl : l.length ≤ 9223372036854775807) : Pure 150 [(false, [.lst 0 0 206 (l.map Early.c)]), int left] (.pv (int (szT left l.length))) := by
  refine fn_of_vc tab_ok mixed Try.call150 Try.func150 rfl [] _ _ (by kernel_rfl) rfl rfl rfl ?_
  repeat' ((conv => whnf); first
      | (fail)
      | (split <;> rename_i hq <;> (try simp only [Bool.not_eq_eq_eq_not, Bool.not_true, Bool.not_false, decide_eq_true_eq, decide_eq_false_iff_not, inB_t, inB_f, bytes_len, List.length_map, Bool.and_eq_true, Bool.and_eq_false_iff, and_true] at hq) <;> (try (exfalso; first | omega | (simp_all; done))))
      | (refine goW (by first | omega | (simp; omega)) (by first | omega | (simp; omega)) ?_)
      | (refine ret1 (by rfl) (by rfl) (outB ?_); first | rfl | grind [szT])
      | (refine ret1 (by rfl) (by rfl) (outI ?_); first | rfl | omega | grind [szT])
      | (refine ret1 (by rfl) (by rfl) (outB ?_)) | (refine ret1 (by rfl) (by rfl) (outI ?_)))
theorem szT_r {left : Int} {n : Nat} (h : 0 ≤ left ∧ left ≤ 1048576) (hn : ¬ szT left n < 0) : (0 ≤ szT left n ∧ szT left n ≤ 1048576) ∧ szT left n = left - n ∧ (n : Int) ≤ left := by
  unfold szT at *; split at hn <;> simp_all <;> omega
theorem szT_two {left : Int} {n m : Nat} (hn : ¬ szT left n < 0) : szT (szT left n) m = szT left (n + m) := by
  unfold szT at *; split at hn <;> simp_all <;> omega
theorem szT_neg {left : Int} {n m : Nat} (h : 0 ≤ left) (hn : szT left n < 0) : szT left (n + m) = -1 := by
  unfold szT at *; split at hn <;> simp_all <;> omega
theorem szMouth_ok (e : Mouth) (left : Int) (h0 : 0 ≤ left ∧ left ≤ 1048576) (h1 : e.keep.length ≤ 9223372036854775807) (h2 : e.early.length ≤ 9223372036854775807) : Pure 71 [(true, e.cL), int left] (.pv (int (szT left (e.keep.length + e.early.length)))) := by
  refine fn_of_vc tab_ok mixed Try.call71 Try.func71 rfl [] _ _ (by kernel_rfl) rfl rfl rfl ?_
  (conv => whnf); refine goP (szByteS_ok e.keep left h0 h1) ?_
  (conv => whnf); split <;> rename_i hq <;> simp only [decide_eq_true_eq, decide_eq_false_iff_not] at hq
  · rw [szT_neg h0.1 hq]; (conv => whnf); exact ret1 (by rfl) (by rfl) (by rfl)
  obtain ⟨a1, a2, a3⟩ := szT_r h0 hq
  (conv => whnf); refine goP (szRangeS_ok e.early _ a1 h2) ?_
  rw [← szT_two hq]
  (conv => whnf); split <;> rename_i hq2 <;> simp only [decide_eq_true_eq, decide_eq_false_iff_not] at hq2
  · have : szT (szT left e.keep.length) e.early.length = -1 := by unfold szT at hq2 ⊢; split at hq2 <;> simp_all <;> omega
    rw [this]; (conv => whnf); exact ret1 (by rfl) (by rfl) (by rfl)
  · (conv => whnf); exact ret1 (by rfl) (by rfl) (by rfl)
theorem szEar_ok (e : Ear) (left : Int) (h0 : 0 ≤ left ∧ left ≤ 1048576) (h1 : e.got.length ≤ 9223372036854775807) (h2 : e.far.length ≤ 9223372036854775807) : Pure 107 [(true, e.cL), int left] (.pv (int (szT left (e.got.length + e.far.length)))) := by
  refine fn_of_vc tab_ok mixed Try.call107 Try.func107 rfl [] _ _ (by kernel_rfl) rfl rfl rfl ?_
  (conv => whnf); refine goP (szByteS_ok e.got left h0 h1) ?_
  (conv => whnf); split <;> rename_i hq <;> simp only [decide_eq_true_eq, decide_eq_false_iff_not] at hq
  · rw [szT_neg h0.1 hq]; (conv => whnf); exact ret1 (by rfl) (by rfl) (by rfl)
  obtain ⟨a1, a2, a3⟩ := szT_r h0 hq
  (conv => whnf); refine goP (szEarlyS_ok e.far _ a1 h2) ?_
  rw [← szT_two hq]
  (conv => whnf); split <;> rename_i hq2 <;> simp only [decide_eq_true_eq, decide_eq_false_iff_not] at hq2
  · have : szT (szT left e.got.length) e.far.length = -1 := by unfold szT at hq2 ⊢; split at hq2 <;> simp_all <;> omega
    rw [this]; (conv => whnf); exact ret1 (by rfl) (by rfl) (by rfl)
  · (conv => whnf); exact ret1 (by rfl) (by rfl) (by rfl)
/-- How many elements an end's lists hold. -/
def End.all (e : End) : Nat := (e.out.keep.length + e.out.early.length) + (e.inn.got.length + e.inn.far.length)
/-- No list is longer than a slice can be. -/
structure End.fits (e : End) : Prop where
  keep : e.out.keep.length ≤ 9223372036854775807
  early : e.out.early.length ≤ 9223372036854775807
  got : e.inn.got.length ≤ 9223372036854775807
  far : e.inn.far.length ≤ 9223372036854775807
theorem szEnd_ok (e : End) (left : Int) (h0 : 0 ≤ left ∧ left ≤ 1048576) (hs : e.fits) : Pure 41 [(true, e.cL), int left] (.pv (int (szT left e.all))) := by
  refine fn_of_vc tab_ok mixed Try.call41 Try.func41 rfl [] _ _ (by kernel_rfl) rfl rfl rfl ?_
  (conv => whnf); refine goP (szMouth_ok e.out left h0 hs.keep hs.early) ?_
  (conv => whnf); split <;> rename_i hq <;> simp only [decide_eq_true_eq, decide_eq_false_iff_not] at hq
  · unfold End.all; rw [szT_neg h0.1 hq]; (conv => whnf); exact ret1 (by rfl) (by rfl) (by rfl)
  obtain ⟨a1, a2, a3⟩ := szT_r h0 hq
  (conv => whnf); refine goP (szEar_ok e.inn _ a1 hs.got hs.far) ?_
  unfold End.all
  rw [← szT_two hq]
  (conv => whnf); split <;> rename_i hq2 <;> simp only [decide_eq_true_eq, decide_eq_false_iff_not] at hq2
  · have : szT (szT left (e.out.keep.length + e.out.early.length)) (e.inn.got.length + e.inn.far.length) = -1 := by unfold szT at hq2 ⊢; split at hq2 <;> simp_all <;> omega
    rw [this]; (conv => whnf); exact ret1 (by rfl) (by rfl) (by rfl)
  · (conv => whnf); exact ret1 (by rfl) (by rfl) (by rfl)
theorem szT_small {e : End} {left : Int} (h0 : 0 ≤ left ∧ left ≤ 1048576) (h : ¬ szT left e.all < 0) : e.small := by
  obtain ⟨_, _, h2⟩ := szT_r h0 h
  unfold End.all at h2
  exact ⟨by omega, by omega, by omega, by omega⟩
theorem eqRange_ok (r : Rng) : Pure 163 [r.v, r.v] (.pv (bool true)) := by
  refine fn_of_vc tab_ok mixed Try.call163 Try.func163 rfl [] _ _ (by kernel_rfl) rfl rfl rfl ?_
  repeat' ((conv => whnf); first
      | (fail)
      | (split <;> rename_i hq <;> (try simp only [Bool.not_eq_eq_eq_not, Bool.not_true, Bool.not_false, decide_eq_true_eq, decide_eq_false_iff_not, inB_t, inB_f, bytes_len, List.length_map, Bool.and_eq_true, Bool.and_eq_false_iff, and_true] at hq) <;> (try (exfalso; first | omega | (simp_all; done))))
      | (refine goW (by first | omega | (simp; omega)) (by first | omega | (simp; omega)) ?_)
      | (refine ret1 (by rfl) (by rfl) (outB ?_); first | rfl | grind [inB])
      | (refine ret1 (by rfl) (by rfl) (outI ?_); first | rfl | omega | grind [inB])
      | (refine ret1 (by rfl) (by rfl) (outB ?_)) | (refine ret1 (by rfl) (by rfl) (outI ?_)))
theorem eqEarly_ok (r : Early) : Pure 182 [r.v, r.v] (.pv (bool true)) := by
  refine fn_of_vc tab_ok mixed Try.call182 Try.func182 rfl [] _ _ (by kernel_rfl) rfl rfl rfl ?_
  repeat' ((conv => whnf); first
      | (fail)
      | (split <;> rename_i hq <;> (try simp only [Bool.not_eq_eq_eq_not, Bool.not_true, Bool.not_false, decide_eq_true_eq, decide_eq_false_iff_not, inB_t, inB_f, bytes_len, List.length_map, Bool.and_eq_true, Bool.and_eq_false_iff, and_true] at hq) <;> (try (exfalso; first | omega | (simp_all; done))))
      | (refine goW (by first | omega | (simp; omega)) (by first | omega | (simp; omega)) ?_)
      | (refine ret1 (by rfl) (by rfl) (outB ?_); first | rfl | grind [inB])
      | (refine ret1 (by rfl) (by rfl) (outI ?_); first | rfl | omega | grind [inB])
      | (refine ret1 (by rfl) (by rfl) (outB ?_)) | (refine ret1 (by rfl) (by rfl) (outI ?_)))
theorem eqClock_ok (r : Clock) : Pure 103 [r.v, r.v] (.pv (bool true)) := by
  refine fn_of_vc tab_ok mixed Try.call103 Try.func103 rfl [] _ _ (by kernel_rfl) rfl rfl rfl ?_
  repeat' ((conv => whnf); first
      | (fail)
      | (split <;> rename_i hq <;> (try simp only [Bool.not_eq_eq_eq_not, Bool.not_true, Bool.not_false, decide_eq_true_eq, decide_eq_false_iff_not, inB_t, inB_f, bytes_len, List.length_map, Bool.and_eq_true, Bool.and_eq_false_iff, and_true] at hq) <;> (try (exfalso; first | omega | (simp_all; done))))
      | (refine goW (by first | omega | (simp; omega)) (by first | omega | (simp; omega)) ?_)
      | (refine ret1 (by rfl) (by rfl) (outB ?_); first | rfl | grind [inB])
      | (refine ret1 (by rfl) (by rfl) (outI ?_); first | rfl | omega | grind [inB])
      | (refine ret1 (by rfl) (by rfl) (outB ?_)) | (refine ret1 (by rfl) (by rfl) (outI ?_)))
theorem eqByteS_ok (l : List Int) (hl : l.length ≤ 1100000) : Pure 73 [(false, [.lst 0 0 5 (bytes l)]), (false, [.lst 0 0 5 (bytes l)])] (.pv (bool true)) := by
  refine fn_of_vc tab_ok mixed Try.call73 Try.func73 rfl [] _ _ (by kernel_rfl) rfl rfl rfl ?_
  (conv => whnf); split <;> rename_i hq
  · simp at hq
  (conv => whnf)
  refine ⟨Nat, fun x => x ≤ l.length, fun x => ⟨[(0, .one (.lst 0 0 5 (bytes l))), (1, .one (.lst 0 0 5 (bytes l))), (5, .one (.i .i64 x))], [], [(1, 0)], [], [1]⟩, fun x => l.length - x, 0, fun x => rfl, ?_, (by refine ⟨?_, ?_, ?_⟩ <;> repeat' (first | exact trivial | refine ⟨rfl, ?_⟩)), ?_⟩
  · show 0 ≤ l.length; omega
  rintro k hk
  (conv => whnf); split <;> rename_i h4 <;> simp only [decide_eq_true_eq, decide_eq_false_iff_not] at h4
  case h_2 =>
    (conv => whnf); exact ret1 (by rfl) (by rfl) (by rfl)
  have hlt : k < (bytes l).length := by omega
  have hll : (bytes l).length = l.length := bytes_len l
  (conv => whnf)
  refine ⟨[0, 1, 2, 3, 4, 5, 6, 7, 8], [], (by kernel_rfl), ?_⟩
  (conv => whnf)
  refine goIdx [.i .u8 (l.getD k 0)] (by omega) rfl (by simpa using bytes_get2 hlt) ?_
  (conv => whnf)
  refine goIdx [.i .u8 (l.getD k 0)] (by omega) rfl (by simpa using bytes_get2 hlt) ?_
  (conv => whnf); split <;> rename_i hq2
  · simp at hq2
  (conv => whnf)
  refine goW (by omega) (by omega) ?_
  (conv => whnf)
  refine ⟨k + 1, ?_, (by refine ⟨?_, ?_, ?_⟩ <;> repeat' (first | exact trivial | refine ⟨rfl, ?_⟩)), ?_⟩
  · show k + 1 ≤ l.length; omega
  · show l.length - (k + 1) < l.length - k; omega
theorem map_get {α : Type} (f : α → List AV) (l : List α) (k : Nat) (hk : k < (l.map f).length) : ∃ r, (l.map f)[k]? = some (f r) := by
  have hk : k < l.length := by simpa using hk
  exact ⟨l[k], by simp [List.getElem?_map, List.getElem?_eq_getElem hk]⟩
theorem eqRangeS_ok (l : List Rng) (hl : l.length ≤ 1100000) : Pure 133 [(false, [.lst 0 0 108 (l.map Rng.c)]), (false, [.lst 0 0 108 (l.map Rng.c)])] (.pv (bool true)) := by
  refine fn_of_vc tab_ok mixed Try.call133 Try.func133 rfl [] _ _ (by kernel_rfl) rfl rfl rfl ?_
  (conv => whnf); split <;> rename_i hq
  · simp at hq
  (conv => whnf)
  refine ⟨Nat, fun x => x ≤ l.length, fun x => ⟨[(0, .one (.lst 0 0 108 (l.map Rng.c))), (1, .one (.lst 0 0 108 (l.map Rng.c))), (5, .one (.i .i64 x))], [], [(1, 0)], [], [1]⟩, fun x => l.length - x, 0, fun x => rfl, ?_, (by refine ⟨?_, ?_, ?_⟩ <;> repeat' (first | exact trivial | refine ⟨rfl, ?_⟩)), ?_⟩
  · show 0 ≤ l.length; omega
  rintro k hk
  (conv => whnf); split <;> rename_i h4 <;> simp only [decide_eq_true_eq, decide_eq_false_iff_not] at h4
  case h_2 =>
    (conv => whnf); exact ret1 (by rfl) (by rfl) (by rfl)
  have hlt : k < (l.map Rng.c).length := by omega
  have hll : (l.map Rng.c).length = l.length := by simp
  obtain ⟨r, hr⟩ := map_get Rng.c l k hlt
  (conv => whnf)
  refine ⟨[0, 1, 2, 3, 4, 5, 6, 7, 8, 9], [], (by kernel_rfl), ?_⟩
  (conv => whnf)
  refine goIdx r.c (by omega) rfl (by simpa using hr) ?_
  (conv => whnf)
  refine goIdx r.c (by omega) rfl (by simpa using hr) ?_
  (conv => whnf); refine goP (eqRange_ok r) ?_
  (conv => whnf)
  refine goW (by omega) (by omega) ?_
  (conv => whnf)
  refine ⟨k + 1, ?_, (by refine ⟨?_, ?_, ?_⟩ <;> repeat' (first | exact trivial | refine ⟨rfl, ?_⟩)), ?_⟩
  · show k + 1 ≤ l.length; omega
  · show l.length - (k + 1) < l.length - k; omega
theorem eqEarlyS_ok (l : List Early) (hl : l.length ≤ 1100000) : Pure 147 [(false, [.lst 0 0 138 (l.map Early.c)]), (false, [.lst 0 0 138 (l.map Early.c)])] (.pv (bool true)) := by
  refine fn_of_vc tab_ok mixed Try.call147 Try.func147 rfl [] _ _ (by kernel_rfl) rfl rfl rfl ?_
  (conv => whnf); split <;> rename_i hq
  · simp at hq
  (conv => whnf)
  refine ⟨Nat, fun x => x ≤ l.length, fun x => ⟨[(0, .one (.lst 0 0 138 (l.map Early.c))), (1, .one (.lst 0 0 138 (l.map Early.c))), (5, .one (.i .i64 x))], [], [(1, 0)], [], [1]⟩, fun x => l.length - x, 0, fun x => rfl, ?_, (by refine ⟨?_, ?_, ?_⟩ <;> repeat' (first | exact trivial | refine ⟨rfl, ?_⟩)), ?_⟩
  · show 0 ≤ l.length; omega
  rintro k hk
  (conv => whnf); split <;> rename_i h4 <;> simp only [decide_eq_true_eq, decide_eq_false_iff_not] at h4
  case h_2 =>
    (conv => whnf); exact ret1 (by rfl) (by rfl) (by rfl)
  have hlt : k < (l.map Early.c).length := by omega
  have hll : (l.map Early.c).length = l.length := by simp
  obtain ⟨r, hr⟩ := map_get Early.c l k hlt
  (conv => whnf)
  refine ⟨[0, 1, 2, 3, 4, 5, 6, 7, 8, 9], [], (by kernel_rfl), ?_⟩
  (conv => whnf)
  refine goIdx r.c (by omega) rfl (by simpa using hr) ?_
  (conv => whnf)
  refine goIdx r.c (by omega) rfl (by simpa using hr) ?_
  (conv => whnf); refine goP (eqEarly_ok r) ?_
  (conv => whnf)
  refine goW (by omega) (by omega) ?_
  (conv => whnf)
  refine ⟨k + 1, ?_, (by refine ⟨?_, ?_, ?_⟩ <;> repeat' (first | exact trivial | refine ⟨rfl, ?_⟩)), ?_⟩
  · show k + 1 ≤ l.length; omega
  · show l.length - (k + 1) < l.length - k; omega
theorem eqMouth_ok (e : Mouth) (h1 : e.keep.length ≤ 1100000) (h2 : e.early.length ≤ 1100000) : Pure 74 [e.v, e.v] (.pv (bool true)) := by
  refine fn_of_vc tab_ok mixed Try.call74 Try.func74 rfl [] _ _ (by kernel_rfl) rfl rfl rfl ?_
  repeat' ((conv => whnf); first
      | (refine goP (eqByteS_ok e.keep h1) ?_)
      | (refine goP (eqRangeS_ok e.early h2) ?_)
      | (split <;> rename_i hq <;> (try simp only [Bool.not_eq_eq_eq_not, Bool.not_true, Bool.not_false, decide_eq_true_eq, decide_eq_false_iff_not, inB_t, inB_f, bytes_len, List.length_map, Bool.and_eq_true, Bool.and_eq_false_iff, and_true] at hq) <;> (try (exfalso; first | omega | (simp_all; done))))
      | (refine goW (by first | omega | (simp; omega)) (by first | omega | (simp; omega)) ?_)
      | (refine ret1 (by rfl) (by rfl) (outB ?_); first | rfl | grind [inB])
      | (refine ret1 (by rfl) (by rfl) (outI ?_); first | rfl | omega | grind [inB])
      | (refine ret1 (by rfl) (by rfl) (outB ?_)) | (refine ret1 (by rfl) (by rfl) (outI ?_)))
theorem eqEar_ok (e : Ear) (h1 : e.got.length ≤ 1100000) (h2 : e.far.length ≤ 1100000) : Pure 102 [e.v, e.v] (.pv (bool true)) := by
  refine fn_of_vc tab_ok mixed Try.call102 Try.func102 rfl [] _ _ (by kernel_rfl) rfl rfl rfl ?_
  repeat' ((conv => whnf); first
      | (refine goP (eqByteS_ok e.got h1) ?_)
      | (refine goP (eqEarlyS_ok e.far h2) ?_)
      | (split <;> rename_i hq <;> (try simp only [Bool.not_eq_eq_eq_not, Bool.not_true, Bool.not_false, decide_eq_true_eq, decide_eq_false_iff_not, inB_t, inB_f, bytes_len, List.length_map, Bool.and_eq_true, Bool.and_eq_false_iff, and_true] at hq) <;> (try (exfalso; first | omega | (simp_all; done))))
      | (refine goW (by first | omega | (simp; omega)) (by first | omega | (simp; omega)) ?_)
      | (refine ret1 (by rfl) (by rfl) (outB ?_); first | rfl | grind [inB])
      | (refine ret1 (by rfl) (by rfl) (outI ?_); first | rfl | omega | grind [inB])
      | (refine ret1 (by rfl) (by rfl) (outB ?_)) | (refine ret1 (by rfl) (by rfl) (outI ?_)))
theorem eqEnd_ok (e : End) (hs : e.small) : Pure 38 [e.v, e.v] (.pv (bool true)) := by
  obtain ⟨h1, h2, h3, h4⟩ := hs
  refine fn_of_vc tab_ok mixed Try.call38 Try.func38 rfl [] _ _ (by kernel_rfl) rfl rfl rfl ?_
  repeat' ((conv => whnf); first
      | (refine ⟨rfl, ?_⟩)
      | (refine goP (eqMouth_ok e.out (by omega) (by omega)) ?_)
      | (refine goP (eqEar_ok e.inn (by omega) (by omega)) ?_)
      | (refine goP (eqClock_ok e.pulse) ?_)
      | (split <;> rename_i hq <;> (try simp only [Bool.not_eq_eq_eq_not, Bool.not_true, Bool.not_false, decide_eq_true_eq, decide_eq_false_iff_not, inB_t, inB_f, bytes_len, List.length_map, Bool.and_eq_true, Bool.and_eq_false_iff, and_true] at hq) <;> (try (exfalso; first | omega | (simp_all; done))))
      | (refine goW (by first | omega | (simp; omega)) (by first | omega | (simp; omega)) ?_)
      | (refine ret1 (by rfl) (by rfl) (outB ?_); first | rfl | grind [inB])
      | (refine ret1 (by rfl) (by rfl) (outI ?_); first | rfl | omega | grind [inB])
      | (refine ret1 (by rfl) (by rfl) (outB ?_)) | (refine ret1 (by rfl) (by rfl) (outI ?_)))
end Go.Proofs.Ytpeejmolbmhjjaa.Sx
