/- What EarOk comes to; there is no condition beyond those each statement names. -/
import Derived.Test.YtpeejmolbmhjjaaF0
namespace Go.Proofs.Ytpeejmolbmhjjaa.Sx
set_option linter.unusedSimpArgs false
set_option linter.unusedVariables false
open Go
set_option maxRecDepth 100000
theorem inB_iff {n lo hi : Int} : inB n lo hi = true ↔ lo ≤ n ∧ n ≤ hi := by simp [inB]
instance : Inhabited Early := ⟨⟨0, 0⟩⟩
def Ear.fa (e : Ear) (k : Nat) : Early := e.far.getD k default
/-- The k-th early byte lies where it may. -/
def Ear.okAt (e : Ear) (k : Nat) : Bool :=
  decide (e.next < (e.fa k).pl) && decide ((e.fa k).pl < e.next + e.room - e.got.length) && (decide (k = 0) || decide ((e.fa (k - 1)).pl < (e.fa k).pl))
def Ear.ok (e : Ear) : Bool := inB e.next 0 1000000 && inB e.room 1 32 && decide ((e.got.length : Int) ≤ e.room) && (List.range e.far.length).all e.okAt
theorem Ear.ok_all {e : Ear} (h1 : inB e.next 0 1000000 = true) (h2 : inB e.room 1 32 = true) (h3 : (e.got.length : Int) ≤ e.room) (h : ∀ j, j < e.far.length → e.okAt j = true) : e.ok = true := by
  simp only [Ear.ok, h1, h2, h3, decide_true, Bool.true_and, List.all_eq_true, List.mem_range]
  exact h
theorem Ear.ok_not {e : Ear} (j : Nat) (hj : j < e.far.length) (h : e.okAt j = false) : e.ok = false := by
  cases hq : e.ok with
  | false => rfl
  | true =>
    simp only [Ear.ok, Bool.and_eq_true, List.all_eq_true, List.mem_range] at hq
    rw [hq.2 j hj] at h; cases h
theorem far_get {e : Ear} {k : Nat} (h : k < e.far.length) : (e.far.map Early.c)[k]? = some (e.fa k).c := by
  simp [List.getElem?_map, Ear.fa, List.getD, List.getElem?_eq_getElem h]
theorem notF {b : Bool} (h : (!b) = false) : b = true := by cases b <;> first | rfl | cases h
theorem notT {b : Bool} (h : (!b) = true) : b = false := by cases b <;> first | rfl | cases h
theorem earOk_ok' (e : Ear) (hl : e.far.length < 1000000000) (hg : e.got.length < 1000000000) : Pure 110 [e.v] (.pv (bool e.ok)) := by
  refine fn_of_vc tab_ok mixed Try.call110 Try.func110 rfl [] _ _ (by kernel_rfl) rfl rfl rfl ?_
  (conv => whnf); refine goP (l1In_ok _ _ _) ?_
  (conv => whnf); split
  case h_1 h => (conv => whnf); refine ret1 (by rfl) (by rfl) (outB ?_); first | rfl | (simp_all [Ear.ok]; done) | (simp_all [Ear.ok]; omega)
  case h_2 h1 =>
  replace h1 := notF h1
  (conv => whnf); refine goP (l1In_ok _ _ _) ?_
  (conv => whnf); split
  case h_1 h => (conv => whnf); refine ret1 (by rfl) (by rfl) (outB ?_); first | rfl | (simp_all [Ear.ok]; done) | (simp_all [Ear.ok]; omega)
  case h_2 h2 =>
  replace h2 := notF h2
  (conv => whnf); split
  case h_1 h3 => (conv => whnf); refine ret1 (by rfl) (by rfl) (outB ?_); first | rfl | (simp_all [Ear.ok, bytes]; done) | (simp_all [Ear.ok, bytes]; omega)
  case h_2 h3 =>
  replace h3 : (e.got.length : Int) ≤ e.room := by simpa using h3
  have g1 := inB_iff.1 h1
  have g2 := inB_iff.1 h2
  (conv => whnf)
  refine ⟨Nat, fun k => k ≤ e.far.length ∧ ∀ j, j < k → e.okAt j = true, fun k => ⟨[(1, .one (.ptr 1 0)), (2, .one (.b false)), (3, .one (.i .i64 k))], [(1, e.c)], [(1, 0)], [1], [1]⟩, fun k => e.far.length - k, 0,
    fun x => rfl, ⟨by omega, fun j hj => by omega⟩, ⟨⟨rfl, rfl, rfl, trivial⟩, ⟨rfl, trivial⟩, ⟨rfl, trivial⟩⟩, ?_⟩
  rintro k ⟨hk, hinv⟩
  (conv => whnf); split
  case h_2 h4 =>
    (conv => whnf)
    have hke : k = e.far.length := by simp at h4; omega
    subst hke
    refine ret1 (by rfl) (by rfl) (outB ?_); first | rfl | (simp_all [Ear.ok_all h1 h2 h3 hinv]; done) | (simp_all [Ear.ok_all h1 h2 h3 hinv]; omega)
  case h_1 h4 =>
  have hlt : k < e.far.length := by simpa using h4
  refine ⟨[0, 1, 2, 3, 4, 5, 6, 7, 8, 9, 10, 11, 12, 13, 14, 15, 16, 17, 18, 19, 20, 21, 22, 23, 24, 25, 26, 27, 28, 29, 30, 31, 32, 33, 34, 35, 36, 37, 38, 39, 40, 41, 42, 43, 44, 45, 46], [(1, [1]), (7, [1]), (11, [1]), (17, [1]), (19, [1]), (22, [1]), (32, [1]), (39, [1])], (by kernel_rfl), ?_⟩
  (conv => whnf)
  refine goIdx (e.fa k).c (by omega) rfl (by simpa using far_get hlt) ?_
  (conv => whnf); split
  case h_1 h5 =>
    (conv => whnf); refine ret1 (by rfl) (by rfl) (outB ?_)
    exact (Ear.ok_not k hlt (by simp only [decide_eq_true_eq] at h5; simp [Ear.okAt]; omega)).symm
  case h_2 h5 =>
  simp only [decide_eq_false_iff_not] at h5
  (conv => whnf)
  refine goIdx (e.fa k).c (by omega) rfl (by simpa using far_get hlt) ?_
  (conv => whnf); refine goW (by omega) (by omega) ?_; (conv => whnf)
  refine goW (by simp; omega) (by simp; omega) ?_
  (conv => whnf); split
  case h_1 h6 =>
    (conv => whnf); refine ret1 (by rfl) (by rfl) (outB ?_)
    exact (Ear.ok_not k hlt (by simp at h6; simp [Ear.okAt]; omega)).symm
  case h_2 h6 =>
  replace h6 : (e.fa k).pl < e.next + e.room - e.got.length := by simpa using h6
  (conv => whnf); split
  case h_2 h7 =>
    (conv => whnf); refine goW (by omega) (by omega) ?_; (conv => whnf)
    have hk0 : k = 0 := by simp at h7; omega
    subst hk0
    exact ⟨1, ⟨by omega, fun j hj => by obtain rfl : j = 0 := by omega
                                        simp [Ear.okAt]; omega⟩, ⟨⟨rfl, rfl, rfl, trivial⟩, ⟨rfl, trivial⟩, ⟨rfl, trivial⟩⟩, by show e.far.length - 1 < e.far.length - 0; omega⟩
  case h_1 h7 =>
  replace h7 : 0 < k := by simpa using h7
  (conv => whnf); refine goW (by omega) (by omega) ?_; (conv => whnf)
  refine goIdx (e.fa (k - 1)).c (by omega) rfl (by rw [show ((k : Int) - 1).toNat = k - 1 by omega]; exact far_get (by omega)) ?_
  (conv => whnf)
  refine goIdx (e.fa k).c (by omega) rfl (by simpa using far_get hlt) ?_
  (conv => whnf); split
  case h_1 h8 =>
    (conv => whnf); refine ret1 (by rfl) (by rfl) (outB ?_)
    exact (Ear.ok_not k hlt (by simp only [decide_eq_true_eq] at h8; simp [Ear.okAt]; omega)).symm
  case h_2 h8 =>
  simp only [decide_eq_false_iff_not] at h8
  (conv => whnf); refine goW (by omega) (by omega) ?_; (conv => whnf)
  refine ⟨k + 1, ⟨by omega, fun j hj => ?_⟩, ⟨⟨rfl, rfl, rfl, trivial⟩, ⟨rfl, trivial⟩, ⟨rfl, trivial⟩⟩, by show e.far.length - (k + 1) < e.far.length - k; omega⟩
  by_cases hjk : j = k
  · subst hjk; simp [Ear.okAt]; omega
  · exact hinv j (by omega)
end Go.Proofs.Ytpeejmolbmhjjaa.Sx
