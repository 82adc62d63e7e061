/- Equal ranges, clones, and what rangesOk and MouthOk come to; there is no condition beyond those each statement names. -/
import Derived.Test.YtpeejmolbmhjjaaF2
namespace Go.Proofs.Ytpeejmolbmhjjaa.Sx
set_option linter.unusedSimpArgs false
set_option linter.unusedVariables false
open Go
set_option maxRecDepth 100000
instance : DecidableEq Rng := fun a b => decidable_of_iff (a.fr = b.fr ∧ a.to = b.to) (by cases a; cases b; simp)
instance : DecidableEq Early := fun a b => decidable_of_iff (a.pl = b.pl ∧ a.b = b.b) (by cases a; cases b; simp)
instance : Inhabited Rng := ⟨⟨0, 0⟩⟩
def rgs (l : List Rng) : AV := .lst 0 0 108 (l.map Rng.c)
def rat (l : List Rng) (k : Nat) : Rng := l.getD k default
theorem rat_get {l : List Rng} {k : Nat} (h : k < l.length) : (l.map Rng.c)[k]? = some (rat l k).c := by
  simp [List.getElem?_map, rat, List.getD, List.getElem?_eq_getElem h]
theorem eq_of_rat {xs ys : List Rng} (hl : xs.length = ys.length) (h : ∀ j, j < xs.length → rat xs j = rat ys j) : xs = ys := by
  apply List.ext_getElem hl
  intro j h1 h2
  have := h j h1
  simpa [rat, List.getD, List.getElem?_eq_getElem h1, List.getElem?_eq_getElem h2] using this
theorem rng_ne {a b : Rng} (h : a.fr ≠ b.fr ∨ a.to ≠ b.to) : a ≠ b := by rintro rfl; omega
theorem rng_eq {a b : Rng} (h : a.fr = b.fr) (h2 : a.to = b.to) : a = b := by cases a; cases b; simp_all
theorem eqR_ok (xs ys : List Rng) (hx : xs.length < 1000000000) (hy : ys.length < 1000000000) : Pure 127 [(false, [rgs xs]), (false, [rgs ys])] (.pv (bool (decide (xs = ys)))) := by
  refine fn_of_vc tab_ok mixed Try.call127 Try.func127 rfl [] _ _ (by kernel_rfl) rfl rfl rfl ?_
  (conv => whnf); split <;> rename_i hq
  · (conv => whnf); refine ret1 (by rfl) (by rfl) (outB ?_)
    symm; apply decide_eq_false; rintro rfl; simp at hq
  have hl : xs.length = ys.length := Int.ofNat.inj (show ((xs.length : Nat) : Int) = ys.length by simpa using hq)
  (conv => whnf)
  refine ⟨Nat, fun x => x ≤ xs.length ∧ ∀ j, j < x → rat xs j = rat ys j, fun x => ⟨[(0, .one (rgs xs)), (1, .one (rgs ys)), (4, .one (.b false)), (12, .one (.i .i64 (xs.map Rng.c).length)), (13, .one (.i .i64 x))], [], [(1, 0)], [], [1]⟩, fun x => xs.length - x, 0, fun x => rfl, ?_, (by refine ⟨?_, ?_, ?_⟩ <;> repeat' (first | exact trivial | refine ⟨rfl, ?_⟩)), ?_⟩
  · exact ⟨by omega, fun j hj => by omega⟩
  rintro k ⟨hk, hinv⟩
  (conv => whnf); split <;> rename_i h4 <;> simp only [decide_eq_true_eq, decide_eq_false_iff_not, List.length_map] at h4
  case h_2 =>
    (conv => whnf); refine ret1 (by rfl) (by rfl) (outB ?_)
    have hke : k = xs.length := by omega
    subst hke
    symm; apply decide_eq_true; exact eq_of_rat hl hinv
  have hlt : k < xs.length := by omega
  (conv => whnf)
  refine ⟨[0, 1, 2, 3, 4, 5, 6, 7, 8], [], (by kernel_rfl), ?_⟩
  (conv => whnf)
  refine goIdx (rat xs k).c (by omega) rfl (by simpa using rat_get hlt) ?_
  (conv => whnf)
  refine goIdx (rat ys k).c (by omega) rfl (by simpa using rat_get (hl ▸ hlt)) ?_
  (conv => whnf)
  repeat' ((conv => whnf); first
      | (refine ⟨rfl, ?_⟩)
      | (split <;> rename_i hq <;> (try simp only [Bool.not_eq_eq_eq_not, Bool.not_true, Bool.not_false, decide_eq_true_eq, decide_eq_false_iff_not, inB_t, inB_f, bytes_len, List.length_map, Bool.and_eq_true, Bool.and_eq_false_iff, and_true] at hq) <;> (try (exfalso; first | omega | (simp_all; done))))
      | (refine goW (by first | omega | (simp; omega)) (by first | omega | (simp; omega)) ?_)
      | (refine ret1 (by rfl) (by rfl) (outB ?_); first | rfl | grind [inB])
      | (refine ret1 (by rfl) (by rfl) (outI ?_); first | rfl | omega | grind [inB])
      | (refine ret1 (by rfl) (by rfl) (outB ?_)) | (refine ret1 (by rfl) (by rfl) (outI ?_)))
  (conv => whnf)
  refine ⟨k + 1, ?_, (by refine ⟨?_, ?_, ?_⟩ <;> repeat' (first | exact trivial | refine ⟨rfl, ?_⟩)), ?_⟩
  · refine ⟨by omega, fun j hj => ?_⟩
    by_cases hjk : j = k
    · subst hjk; exact rng_eq hq.1 hq.2
    · exact hinv j (by omega)
  · show xs.length - (k + 1) < xs.length - k; omega
theorem sameR_ok (xs ys : List Rng) (hx : xs.length < 1000000000) (hy : ys.length < 1000000000) : Pure 146 [(false, [rgs xs]), (false, [rgs ys])] (.pv (bool (decide (xs = ys)))) := by
  refine fn_of_vc tab_ok mixed Try.call146 Try.func146 rfl [] _ _ (by kernel_rfl) rfl rfl rfl ?_
  (conv => whnf); split <;> rename_i hq
  · (conv => whnf); refine ret1 (by rfl) (by rfl) (outB ?_)
    symm; apply decide_eq_false; rintro rfl; simp at hq
  have hl : xs.length = ys.length := Int.ofNat.inj (show ((xs.length : Nat) : Int) = ys.length by simpa using hq)
  (conv => whnf)
  refine ⟨Nat, fun x => x ≤ xs.length ∧ ∀ j, j < x → rat xs j = rat ys j, fun x => ⟨[(0, .one (rgs xs)), (1, .one (rgs ys)), (4, .one (.b false)), (5, .one (.i .i64 x))], [], [(1, 0)], [], [1]⟩, fun x => xs.length - x, 0, fun x => rfl, ?_, (by refine ⟨?_, ?_, ?_⟩ <;> repeat' (first | exact trivial | refine ⟨rfl, ?_⟩)), ?_⟩
  · exact ⟨by omega, fun j hj => by omega⟩
  rintro k ⟨hk, hinv⟩
  (conv => whnf); split <;> rename_i h4 <;> simp only [decide_eq_true_eq, decide_eq_false_iff_not, List.length_map] at h4
  case h_2 =>
    (conv => whnf); refine ret1 (by rfl) (by rfl) (outB ?_)
    have hke : k = xs.length := by omega
    subst hke
    symm; apply decide_eq_true; exact eq_of_rat hl hinv
  have hlt : k < xs.length := by omega
  (conv => whnf)
  refine ⟨[0, 1, 2, 3, 4, 5, 6, 7, 8], [], (by kernel_rfl), ?_⟩
  (conv => whnf)
  refine goIdx (rat xs k).c (by omega) rfl (by simpa using rat_get hlt) ?_
  (conv => whnf)
  refine goIdx (rat ys k).c (by omega) rfl (by simpa using rat_get (hl ▸ hlt)) ?_
  (conv => whnf)
  repeat' ((conv => whnf); first
      | (refine ⟨rfl, ?_⟩)
      | (split <;> rename_i hq <;> (try simp only [Bool.not_eq_eq_eq_not, Bool.not_true, Bool.not_false, decide_eq_true_eq, decide_eq_false_iff_not, inB_t, inB_f, bytes_len, List.length_map, Bool.and_eq_true, Bool.and_eq_false_iff, and_true] at hq) <;> (try (exfalso; first | omega | (simp_all; done))))
      | (refine goW (by first | omega | (simp; omega)) (by first | omega | (simp; omega)) ?_)
      | (refine ret1 (by rfl) (by rfl) (outB ?_); first | rfl | grind [inB])
      | (refine ret1 (by rfl) (by rfl) (outI ?_); first | rfl | omega | grind [inB])
      | (refine ret1 (by rfl) (by rfl) (outB ?_)) | (refine ret1 (by rfl) (by rfl) (outI ?_)))
  (conv => whnf)
  refine ⟨k + 1, ?_, (by refine ⟨?_, ?_, ?_⟩ <;> repeat' (first | exact trivial | refine ⟨rfl, ?_⟩)), ?_⟩
  · refine ⟨by omega, fun j hj => ?_⟩
    by_cases hjk : j = k
    · subst hjk; exact rng_eq hq.1 hq.2
    · exact hinv j (by omega)
  · show xs.length - (k + 1) < xs.length - k; omega
theorem clip_ok (l : List Rng) (hl : l.length < 1000000000) : Pure 187 [(false, [rgs l])] (.pv (false, [rgs l])) := by
  refine fn_of_vc tab_ok mixed Try.call187 Try.func187 rfl [] _ _ (by kernel_rfl) rfl rfl rfl ?_
  (conv => whnf)
  refine ⟨rfl, by omega, by omega, ?_⟩
  (conv => whnf)
  refine ret1 (by rfl) (by rfl) ?_
  show ({ res := .pv (false, [AV.lst 0 0 108 _]) } : Out) = _
  simp only [rgs, Int.toNat_natCast, List.take_length]
theorem cloneR_ok (l : List Rng) (hl : l.length < 1000000000) : Pure 161 [(false, [rgs l])] (.pv (false, [rgs l])) := by
  refine fn_of_vc tab_ok mixed Try.call161 Try.func161 rfl [] _ _ (by kernel_rfl) rfl rfl rfl ?_
  (conv => whnf); split <;> rename_i hq
  · (conv => whnf); refine ret1 (by rfl) (by rfl) ?_
    have : l = [] := by simpa using hq
    subst this; rfl
  (conv => whnf)
  refine ⟨by show (0 + (List.map Rng.c l).length) * 16 ≤ 140737488355328; simp; omega, ?_⟩
  (conv => whnf); refine goP (clip_ok l hl) ?_
  (conv => whnf)
  refine ret1 (by rfl) (by rfl) ?_
  rfl
/-- The first two ranges that lie right. -/
def okR : Int → List Rng → List Rng → Int → List Rng
  | _, acc, [], _ => acc
  | lo, acc, r :: rs, hi => if lo < r.fr ∧ r.fr < r.to ∧ r.to ≤ hi ∧ acc.length < 2 then okR r.to (acc ++ [r]) rs hi else okR lo acc rs hi
theorem okR_step {lo hi : Int} {acc l : List Rng} {k : Nat} (h : k < l.length) : okR lo acc (l.drop k) hi = if lo < (rat l k).fr ∧ (rat l k).fr < (rat l k).to ∧ (rat l k).to ≤ hi ∧ acc.length < 2 then okR (rat l k).to (acc ++ [rat l k]) (l.drop (k + 1)) hi else okR lo acc (l.drop (k + 1)) hi := by
  rw [List.drop_eq_getElem_cons h]
  simp [okR, rat, List.getD, List.getElem?_eq_getElem h]
theorem rangesOk_ok (l : List Rng) (lo hi : Int) (hl : l.length < 1100000) : Pure 128 [(false, [rgs l]), int lo, int hi] (.pv (false, [rgs (okR lo [] l hi)])) := by
  refine fn_of_vc tab_ok mixed Try.call128 Try.func128 rfl [] _ _ (by kernel_rfl) rfl rfl rfl ?_
  (conv => whnf)
  refine ⟨Nat × Int × List Rng × List (List AV) × Nat, fun x => x.2.2.2.1 = x.2.2.1.map Rng.c ∧ x.1 ≤ l.length ∧ x.2.2.1.length ≤ 2 ∧ okR lo [] l hi = okR x.2.1 x.2.2.1 (l.drop x.1) hi, fun x => ⟨[(7, .one (.lst 112 x.2.2.2.2 108 x.2.2.2.1)), (8, .one (.i .i64 x.2.1)), (2, .one (.i .i64 hi)), (12, .one (rgs l)), (13, .one (.i .i64 (l.map Rng.c).length)), (14, .one (.i .i64 x.1))], [], [(112, x.2.2.2.2), (1, 0)], [], [112,1]⟩, fun x => l.length - x.1, (0, lo, [], [], 0), fun x => rfl, ?_, (by refine ⟨?_, ?_, ?_⟩ <;> repeat' (first | exact trivial | refine ⟨rfl, ?_⟩)), ?_⟩
  · exact ⟨rfl, by simp, by simp, by simp⟩
  rintro ⟨k, b, acc, cs, v⟩ ⟨hcs, hk, ha, hinv⟩
  dsimp only at hcs hk ha hinv
  (conv => whnf); split <;> rename_i h4 <;> simp only [decide_eq_true_eq, decide_eq_false_iff_not, List.length_map] at h4
  case h_2 =>
    have hke : k = l.length := by omega
    subst hke
    simp only [List.drop_length, okR] at hinv
    subst hcs
    (conv => whnf); refine goP (cloneR_ok acc (by omega)) ?_
    (conv => whnf); refine ret1 (by rfl) (by rfl) ?_
    rw [hinv]; rfl
  have hlt : k < l.length := by omega
  have e1 : cs.length = acc.length := by rw [hcs]; simp
  rw [okR_step hlt] at hinv
  (conv => whnf)
  refine goIdx (rat l k).c (by omega) rfl (by simpa using rat_get hlt) ?_
  repeat' ((conv => whnf); first
      | (refine ⟨by show (cs.length + 1) * 16 ≤ 140737488355328; simp [hcs]; omega, ?_⟩)
      | (refine ⟨rfl, rfl, ?_⟩)
      | (split <;> rename_i hq <;> (try simp only [Bool.not_eq_eq_eq_not, Bool.not_true, Bool.not_false, decide_eq_true_eq, decide_eq_false_iff_not, inB_t, inB_f, bytes_len, List.length_map, Bool.and_eq_true, Bool.and_eq_false_iff, and_true] at hq) <;> (try (exfalso; first | omega | (simp_all; done))))
      | (refine goW (by first | omega | (simp; omega)) (by first | omega | (simp; omega)) ?_)
      | (refine ret1 (by rfl) (by rfl) (outB ?_); first | rfl | grind [inB])
      | (refine ret1 (by rfl) (by rfl) (outI ?_); first | rfl | omega | grind [inB])
      | (refine ret1 (by rfl) (by rfl) (outB ?_)) | (refine ret1 (by rfl) (by rfl) (outI ?_)))
  all_goals (conv => whnf)
  all_goals first
    | (have hn : ¬(b < (rat l k).fr ∧ (rat l k).fr < (rat l k).to ∧ (rat l k).to ≤ hi ∧ acc.length < 2) := by omega
       rw [if_neg hn] at hinv
       refine ⟨(k + 1, b, acc, cs, v), ?_, (by refine ⟨?_, ?_, ?_⟩ <;> repeat' (first | exact trivial | refine ⟨rfl, ?_⟩)), ?_⟩
       · exact ⟨hcs, by omega, ha, hinv⟩
       · show l.length - (k + 1) < l.length - k; omega)
    | (have hn : (b < (rat l k).fr ∧ (rat l k).fr < (rat l k).to ∧ (rat l k).to ≤ hi ∧ acc.length < 2) := by omega
       rw [if_pos hn] at hinv
       refine ⟨(k + 1, (rat l k).to, acc ++ [rat l k], cs ++ [(rat l k).c], v + 1), ?_, (by refine ⟨?_, ?_, ?_⟩ <;> repeat' (first | exact trivial | refine ⟨rfl, ?_⟩)), ?_⟩
       · exact ⟨by simp [hcs], by omega, by simp; omega, hinv⟩
       · show l.length - (k + 1) < l.length - k; omega)
end Go.Proofs.Ytpeejmolbmhjjaa.Sx
