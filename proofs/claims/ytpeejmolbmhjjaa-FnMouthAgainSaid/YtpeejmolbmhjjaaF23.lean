/- Drawn mouths; there is no condition beyond those each statement names. -/
import Derived.Test.YtpeejmolbmhjjaaF23a
namespace Go.Proofs.Ytpeejmolbmhjjaa.Sx
set_option linter.unusedSimpArgs false
set_option linter.unusedVariables false
open Go
set_option maxRecDepth 100000
set_option maxHeartbeats 0
theorem stream_r (a : Int) (h : 0 ≤ a ∧ a ≤ 1000000000) : Fx 185 [int a] fun v => ∃ n, v = .pv (false, [.i .u8 n]) := by
  refine fn_of_vc tab_ok mixed Try.call185 Try.func185 rfl [] _ _ (by kernel_rfl) rfl rfl rfl ?_
  (conv => whnf); refine goW (by omega) (by omega) ?_
  (conv => whnf); refine goQuo (by omega) (by omega) (by omega) fun q hq1 hq2 => ?_
  (conv => whnf); refine goW (by omega) (by omega) ?_
  (conv => whnf); refine goRem (by omega) (by omega) fun r hr1 hr2 => ?_
  (conv => whnf); refine goW (by omega) (by omega) ?_
  (conv => whnf); refine ⟨_, rfl, ?_⟩
  (conv => whnf); exact retE (by rfl) (by rfl) ⟨_, rfl⟩
theorem bytes_snoc (a : List Int) (n : Int) : bytes a ++ [[.i .u8 n]] = bytes (a ++ [n]) := by simp [bytes]
theorem heard_r (a n : Int) (h : 0 ≤ a ∧ a ≤ 100000000) (hn : n ≤ 1000) : Fx 157 [int a, int n] fun v => ∃ l : List Int, l.length ≤ 1000 ∧ v = .pv (byts l) := by
  refine fn_of_vc tab_ok mixed Try.call157 Try.func157 rfl [] _ _ (by kernel_rfl) rfl rfl rfl ?_
  (conv => whnf)
  refine ⟨Nat × List Int × List (List AV) × Nat, fun x => x.2.2.1 = bytes x.2.1 ∧ x.2.1.length = x.1 ∧ x.1 ≤ n.toNat, fun x => ⟨[(0, .one (.i .i64 a)), (1, .one (.i .i64 n)), (5, .one (.lst 112 x.2.2.2 5 x.2.2.1)), (6, .one (.i .i64 x.1))], [], [(112, x.2.2.2), (1, 0)], [], [112,1]⟩, fun x => n.toNat - x.1, (0, [], [], 0), fun x => rfl, ?_, (by refine ⟨?_, ?_, ?_⟩ <;> repeat' (first | exact trivial | refine ⟨rfl, ?_⟩)), ?_⟩
  · exact ⟨rfl, rfl, by dsimp only; omega⟩
  rintro ⟨k, acc, cells, v⟩ ⟨hc, hk, hkn⟩
  dsimp only at hc hk hkn
  subst hc
  have hbl := bytes_len acc
  (conv => whnf); split <;> rename_i h4 <;> simp only [decide_eq_true_eq, decide_eq_false_iff_not] at h4
  case h_2 =>
    (conv => whnf)
    exact retE (by rfl) (by rfl) ⟨acc, by omega, rfl⟩
  (conv => whnf); refine goW (by omega) (by omega) ?_
  (conv => whnf); refine goE (stream_r _ (by omega)) ?_
  rintro _ ⟨r, rfl⟩
  (conv => whnf); refine ⟨by show ((bytes acc).length + 1) * 1 ≤ 140737488355328; omega, rfl, rfl, ?_⟩
  (conv => whnf); refine goW (by omega) (by omega) ?_
  (conv => whnf)
  (refine ⟨(k + 1, acc ++ [r], bytes acc ++ [[.i .u8 r]], v + 1), ?_, ⟨⟨rfl, rfl, rfl, rfl, trivial⟩, trivial, ⟨rfl, rfl, trivial⟩⟩, ?_⟩; (focus (exact ⟨bytes_snoc _ _, by simp; omega, by dsimp only; omega⟩)); (focus (show n.toNat - (k + 1) < n.toNat - k; omega)))
/-- Where a drawn mouth's early ranges come from. -/
inductive L4 where
  | a
  | b
  | b2
  | c
  | c2
  | d
  | d2
def L4.t : L4 → Nat
  | .a => 1
  | .b => 722
  | .b2 => 729
  | .c => 1378
  | .c2 => 1385
  | .d => 450
  | .d2 => 457
def L4.v : L4 → Nat → Nat
  | .a, _ => 0
  | _, v => v
def L4.cur : L4 → Nat → List (Nat × Nat)
  | .a, _ => [(1, 0)]
  | .b, v => [(722, v), (1, 0)]
  | .b2, v => [(729, v), (1, 0)]
  | .c, v => [(1378, v), (1, 0)]
  | .c2, v => [(1385, v), (1, 0)]
  | .d, v => [(450, v), (1, 0)]
  | .d2, v => [(457, v), (1, 0)]
def L4.ut : L4 → List Nat
  | .a => [1]
  | .b => [722, 1]
  | .b2 => [729, 1]
  | .c => [1378, 1]
  | .c2 => [1385, 1]
  | .d => [450, 1]
  | .d2 => [457, 1]
/-- A drawn mouth. -/
theorem mouth_r {l : List Int} (hl : okB l) (p : Int) (hp : 0 ≤ p ∧ p < 500000000000) (n : Int) (hn : n ≤ 1000000000000 ∧ -1000000000000 ≤ n) : Reads 125 l p [int n] fun p' v => (p ≤ p' ∧ p' ≤ p + 1000) ∧ ∃ m : Mouth, (m.keep.length ≤ 64 ∧ m.early.length ≤ 4) ∧ v = m.v := by
  refine fn_of_vc tab_ok mixed Try.call125 Try.func125 rfl [(1000, rd l p)] _ _ (by kernel_rfl) rfl rfl rfl ?_
  (conv => whnf); refine goPick hl (by exact ⟨⟨rfl, rfl⟩, trivial⟩) (by first | omega | (dsimp only; omega) | (simp; omega)) (by first | omega | (dsimp only; omega) | (simp; omega)) fun a ha1 ha2 => ?_
  (conv => whnf); refine goW (by first | omega | (dsimp only; omega) | (simp; omega)) (by first | omega | (dsimp only; omega) | (simp; omega)) ?_
  (conv => whnf); refine goW (by first | omega | (dsimp only; omega) | (simp; omega)) (by first | omega | (dsimp only; omega) | (simp; omega)) ?_
  (conv => whnf); refine goPick hl (by exact ⟨⟨rfl, rfl⟩, trivial⟩) (by first | omega | (dsimp only; omega) | (simp; omega)) (by first | omega | (dsimp only; omega) | (simp; omega)) fun b hb1 hb2 => ?_
  (conv => whnf); refine goPick hl (by exact ⟨⟨rfl, rfl⟩, trivial⟩) (by first | omega | (dsimp only; omega) | (simp; omega)) (by first | omega | (dsimp only; omega) | (simp; omega)) fun c hc1 hc2 => ?_
  (conv => whnf)
  refine ⟨Int × Mouth × Int × L4 × Nat, fun x => (0 ≤ x.1 ∧ x.1 ≤ 9) ∧ x.2.1.ok = true ∧ x.2.1.heard ≤ 180 + (9 - x.1) * 40 ∧ (p ≤ x.2.2.1 ∧ x.2.2.1 ≤ p + 10 + (9 - x.1) * 10),
    fun x => ⟨[(0, .one (.ptr 1000 0)), (1, .one (.i .i64 n)), (4, .one (.ptr 4 0)), (5, .one (.ptr 5 0)), (6, .one (.i .i64 x.1))], [(4, [.i .i64 0, .lst 1 0 5 [], .i .i64 0, .i .i64 0, .lst 1 0 108 []]), (5, x.2.1.cl x.2.2.2.1.t (x.2.2.2.1.v x.2.2.2.2)), (1000, rd l x.2.2.1)], x.2.2.2.1.cur x.2.2.2.2, [4, 5, 1000], x.2.2.2.1.ut⟩,
    fun x => x.1.toNat, (c, ⟨100 + a * 40, [], 0, b, []⟩, p + 1 + 1 + 1, .a, 0), fun x => by obtain ⟨x1, x2, x3, x4, x5⟩ := x; cases x4 <;> rfl, ?_, ⟨⟨rfl, rfl, rfl, rfl, rfl, trivial⟩, ⟨rfl, rfl, rfl, trivial⟩, ⟨rfl, trivial⟩⟩, ?_⟩
  · refine ⟨(by first | omega | (dsimp only; omega) | (simp; omega)), Mouth.ok_all ⟨(by first | omega | (dsimp only; omega) | (simp; omega)), by simp, by simp, (by first | omega | (dsimp only; omega) | (simp; omega)), by simp⟩ (fun j hj => by simp at hj), (by first | omega | (dsimp only; omega) | (simp; omega)), (by first | omega | (dsimp only; omega) | (simp; omega))⟩
  rintro ⟨c, m, q, w, ver⟩ ⟨hc, hok, hh, hq⟩
  dsimp only at hc hok hh hq
  obtain ⟨b1, b2, b3, b4, b5⟩ := Mouth.ok_base hok
  have hbk := bytes_len m.keep
  have hml : (m.early.map Rng.c).length = m.early.length := by simp
  cases w
  all_goals (conv => whnf)
  all_goals split <;> rename_i h4 <;> simp only [decide_eq_true_eq, decide_eq_false_iff_not] at h4
  all_goals (conv => whnf)
  iterate 7
    rotate_left
    · refine goOdd hl (by exact ⟨⟨rfl, rfl⟩, trivial⟩) (by first | omega | (dsimp only; omega) | (simp; omega)) (by first | omega | (dsimp only; omega) | (simp; omega)) fun p1 x hx1 hx2 => ?_
      have hq3 : q ≤ p1 ∧ p1 ≤ q + 1 := ⟨hx1, hx2⟩
      (conv => whnf)
      cases x with
      | false =>
        (conv => whnf)
        exact retG [] 0 (by rfl) (by rfl) (by rfl) (by rfl) (by rfl) (by rfl) ⟨p1, m.v, ⟨by omega, m, ⟨by omega, by omega⟩, rfl⟩, rfl⟩
      | true =>
        (conv => whnf); refine goPick hl (by exact ⟨⟨rfl, rfl⟩, trivial⟩) (by first | omega | (dsimp only; omega) | (simp; omega)) (by first | omega | (dsimp only; omega) | (simp; omega)) fun s hs1 hs2 => ?_
        (conv => whnf); split <;> rename_i h5 <;> simp only [decide_eq_true_eq, decide_eq_false_iff_not] at h5
        · (conv => whnf); refine goPick hl (by exact ⟨⟨rfl, rfl⟩, trivial⟩) (by first | omega | (dsimp only; omega) | (simp; omega)) (by first | omega | (dsimp only; omega) | (simp; omega)) fun i hi1 hi2 => ?_
          (conv => whnf); refine goW (by first | omega | (dsimp only; omega) | (simp; omega)) (by first | omega | (dsimp only; omega) | (simp; omega)) ?_
          (conv => whnf)
          exact retG [] 0 (by rfl) (by rfl) (by rfl) (by rfl) (by rfl) (by rfl) ⟨p1 + 1 + 1, _, ⟨by omega, ⟨m.heard, m.keep, i - 1, m.room, m.early⟩, ⟨by dsimp only; omega, by dsimp only; omega⟩, rfl⟩, rfl⟩
        (conv => whnf); split <;> rename_i h6 <;> simp only [decide_eq_true_eq, decide_eq_false_iff_not] at h6
        · (conv => whnf); refine goPick hl (by exact ⟨⟨rfl, rfl⟩, trivial⟩) (by first | omega | (dsimp only; omega) | (simp; omega)) (by first | omega | (dsimp only; omega) | (simp; omega)) fun i hi1 hi2 => ?_
          (conv => whnf); refine goW (by first | omega | (dsimp only; omega) | (simp; omega)) (by first | omega | (dsimp only; omega) | (simp; omega)) ?_
          (conv => whnf); refine goW (by first | omega | (dsimp only; omega) | (simp; omega)) (by first | omega | (dsimp only; omega) | (simp; omega)) ?_
          (conv => whnf)
          exact retG [] 0 (by rfl) (by rfl) (by rfl) (by rfl) (by rfl) (by rfl) ⟨p1 + 1 + 1, _, ⟨by omega, ⟨m.heard, m.keep, m.sent, 256 - i * 300, m.early⟩, ⟨by dsimp only; omega, by dsimp only; omega⟩, rfl⟩, rfl⟩
        (conv => whnf); split <;> rename_i h7 <;> simp only [decide_eq_true_eq, decide_eq_false_iff_not] at h7
        · (conv => whnf)
          refine ⟨[0, 1, 2, 3, 4, 7, 8, 9, 5, 6, 10, 11, 12, 13, 14, 15, 16], [(1, [5]), (3, [5]), (5, [1000]), (8, [5]), (10, [1000]), (16, [5])], (by kernel_rfl), ?_⟩
          (conv => whnf)
          refine goPick hl (by exact ⟨⟨rfl, rfl⟩, trivial⟩) (by first | omega | (dsimp only; omega) | (simp; omega)) (by first | omega | (dsimp only; omega) | (simp; omega)) fun i hi1 hi2 => ?_
          (conv => whnf); refine goW (by first | omega | (dsimp only; omega) | (simp; omega)) (by first | omega | (dsimp only; omega) | (simp; omega)) ?_
          (conv => whnf); refine goPick hl (by exact ⟨⟨rfl, rfl⟩, trivial⟩) (by first | omega | (dsimp only; omega) | (simp; omega)) (by first | omega | (dsimp only; omega) | (simp; omega)) fun j hj1 hj2 => ?_
          (conv => whnf); refine goW (by first | omega | (dsimp only; omega) | (simp; omega)) (by first | omega | (dsimp only; omega) | (simp; omega)) ?_
          (conv => whnf)
          first | refine ⟨by show ((m.early.map Rng.c).length + 1) * 16 ≤ 140737488355328; omega, rfl, rfl, ?_⟩ | refine ⟨by show ((m.early.map Rng.c).length + 1) * 16 ≤ 140737488355328; omega, ?_⟩
          (conv => whnf)
          refine retG [] 0 (by rfl) (by rfl) (by rfl) (by rfl) (by rfl) (by rfl) ⟨p1 + 1 + 1 + 1, _, ⟨by omega, ⟨m.heard, m.keep, m.sent, m.room, m.early ++ [⟨m.heard + i, m.heard + j⟩]⟩, ⟨by dsimp only; omega, by simp; omega⟩, ?_⟩, rfl⟩
          show (true, [AV.i .i64 m.heard, AV.lst 0 0 5 (bytes m.keep), AV.i .i64 m.sent, AV.i .i64 m.room, AV.lst 0 0 108 (m.early.map Rng.c ++ [[AV.i .i64 (m.heard + i), AV.i .i64 (m.heard + j)]])]) = _
          simp [Mouth.c, Rng.c]
        · (conv => whnf)
          refine ⟨rfl, by decide, by decide, by decide, ?_⟩
          (conv => whnf)
          exact retG [] 0 (by rfl) (by rfl) (by rfl) (by rfl) (by rfl) (by rfl) ⟨p1 + 1, _, ⟨by omega, ⟨m.heard, List.replicate 33 0, m.sent, m.room, m.early⟩, ⟨by simp, by dsimp only; omega⟩, rfl⟩, rfl⟩
  all_goals
    refine goPick hl (by exact ⟨⟨rfl, rfl⟩, trivial⟩) (by first | omega | (dsimp only; omega) | (simp; omega)) (by first | omega | (dsimp only; omega) | (simp; omega)) fun s hs1 hs2 => ?_
    (conv => whnf); split <;> rename_i h5 <;> simp only [decide_eq_true_eq, decide_eq_false_iff_not] at h5
    · (conv => whnf)
      refine ⟨[0, 1, 2, 3, 4, 5, 6, 7, 8, 9, 10, 11, 12, 13, 14], [(0, [5]), (2, [5]), (4, [5]), (8, [1000]), (14, [5])], (by kernel_rfl), ?_⟩
      (conv => whnf)
      refine goW (by first | omega | (dsimp only; omega) | (simp; omega)) (by first | omega | (dsimp only; omega) | (simp; omega)) ?_
      (conv => whnf); refine goPick hl (by exact ⟨⟨rfl, rfl⟩, trivial⟩) (by first | omega | (dsimp only; omega) | (simp; omega)) (by first | omega | (dsimp only; omega) | (simp; omega)) fun i hi1 hi2 => ?_
      (conv => whnf); refine goE (heard_r _ _ (by first | omega | (dsimp only; omega) | (simp; omega)) (by first | omega | (dsimp only; omega) | (simp; omega))) ?_
      rintro _ ⟨l1, hl1, rfl⟩
      (conv => whnf); refine ⟨[], _, mouthWrite_l m l1 hok (by omega), trivial, ?_⟩
      rintro o ⟨m1, n1, hm1, hm2, rfl⟩ _
      (conv => whnf); refine goW (by first | omega | (dsimp only; omega) | (simp; omega)) (by first | omega | (dsimp only; omega) | (simp; omega)) ?_
      (conv => whnf)
      first | (refine ⟨(c - 1, m1, q + 1 + 1, .b, 1), ?_, ⟨⟨rfl, rfl, rfl, rfl, rfl, trivial⟩, ⟨rfl, rfl, rfl, trivial⟩, ⟨rfl, rfl, trivial⟩⟩, ?_⟩) | (refine ⟨(c - 1, m1, q + 1 + 1, .b2, 1), ?_, ⟨⟨rfl, rfl, rfl, rfl, rfl, trivial⟩, ⟨rfl, rfl, rfl, trivial⟩, ⟨rfl, rfl, trivial⟩⟩, ?_⟩)
      · exact ⟨(by first | omega | (dsimp only; omega) | (simp; omega)), hm1, (by first | omega | (dsimp only; omega) | (simp; omega)), (by first | omega | (dsimp only; omega) | (simp; omega))⟩
      · show (c - 1).toNat < c.toNat; omega
    (conv => whnf); split <;> rename_i h6 <;> simp only [decide_eq_true_eq, decide_eq_false_iff_not] at h6
    · (conv => whnf)
      refine ⟨[0, 1, 2, 3, 4, 5, 6, 7, 8], [(1, [5]), (4, [5]), (6, [1000])], (by kernel_rfl), ?_⟩
      (conv => whnf)
      refine goW (by first | omega | (dsimp only; omega) | (simp; omega)) (by first | omega | (dsimp only; omega) | (simp; omega)) ?_
      (conv => whnf); refine goPick hl (by exact ⟨⟨rfl, rfl⟩, trivial⟩) (by first | omega | (dsimp only; omega) | (simp; omega)) (by first | omega | (dsimp only; omega) | (simp; omega)) fun i hi1 hi2 => ?_
      have hi3 : i ≤ m.sent := by
        have hi2 : m.sent + 1 < 1 ∧ i = 0 ∨ 1 ≤ m.sent + 1 ∧ i < m.sent + 1 := hi2
        omega
      (conv => whnf); refine goW (by first | omega | (dsimp only; omega) | (simp; omega)) (by first | omega | (dsimp only; omega) | (simp; omega)) ?_
      (conv => whnf)
      refine ⟨[0, 1, 2, 4, 5, 6, 9, 10, 11, 15, 16, 17, 20, 21, 22, 3, 7, 8, 12, 13, 14, 18, 19, 23, 24, 25, 26, 27, 28, 29, 30, 31], [(0, [5]), (3, [1000]), (7, [1000]), (12, [1000]), (18, [1000]), (23, [1000]), (31, [5])], (by kernel_rfl), ?_⟩
      (conv => whnf)
      refine goW (by first | omega | (dsimp only; omega) | (simp; omega)) (by first | omega | (dsimp only; omega) | (simp; omega)) ?_
      (conv => whnf); refine goW (by first | omega | (dsimp only; omega) | (simp; omega)) (by first | omega | (dsimp only; omega) | (simp; omega)) ?_
      (conv => whnf); refine goW (by first | omega | (dsimp only; omega) | (simp; omega)) (by first | omega | (dsimp only; omega) | (simp; omega)) ?_
      (conv => whnf); refine goW (by first | omega | (dsimp only; omega) | (simp; omega)) (by first | omega | (dsimp only; omega) | (simp; omega)) ?_
      (conv => whnf); refine goPick hl (by exact ⟨⟨rfl, rfl⟩, trivial⟩) (by first | omega | (dsimp only; omega) | (simp; omega)) (by first | omega | (dsimp only; omega) | (simp; omega)) fun j hj1 hj2 => ?_
      (conv => whnf); refine goPick hl (by exact ⟨⟨rfl, rfl⟩, trivial⟩) (by first | omega | (dsimp only; omega) | (simp; omega)) (by first | omega | (dsimp only; omega) | (simp; omega)) fun k1 hk1 hk2 => ?_
      (conv => whnf); refine goW (by first | omega | (dsimp only; omega) | (simp; omega)) (by first | omega | (dsimp only; omega) | (simp; omega)) ?_
      (conv => whnf); refine goPick hl (by exact ⟨⟨rfl, rfl⟩, trivial⟩) (by first | omega | (dsimp only; omega) | (simp; omega)) (by first | omega | (dsimp only; omega) | (simp; omega)) fun k3 hk3 hk4 => ?_
      (conv => whnf); refine goW (by first | omega | (dsimp only; omega) | (simp; omega)) (by first | omega | (dsimp only; omega) | (simp; omega)) ?_
      (conv => whnf); refine goPick hl (by exact ⟨⟨rfl, rfl⟩, trivial⟩) (by first | omega | (dsimp only; omega) | (simp; omega)) (by first | omega | (dsimp only; omega) | (simp; omega)) fun k5 hk5 hk6 => ?_
      (conv => whnf); refine goW (by first | omega | (dsimp only; omega) | (simp; omega)) (by first | omega | (dsimp only; omega) | (simp; omega)) ?_
      (conv => whnf); refine goPick hl (by exact ⟨⟨rfl, rfl⟩, trivial⟩) (by first | omega | (dsimp only; omega) | (simp; omega)) (by first | omega | (dsimp only; omega) | (simp; omega)) fun k7 hk7 hk8 => ?_
      (conv => whnf); refine goW (by first | omega | (dsimp only; omega) | (simp; omega)) (by first | omega | (dsimp only; omega) | (simp; omega)) ?_
      (conv => whnf); refine ⟨[], _, mouthHear_l m (m.heard + i) j [⟨_, _⟩, ⟨_, _⟩] hok (by omega) (by simp) (by omega) (by omega), trivial, ?_⟩
      rintro o ⟨m1, n1, v1, hm1, hm2, rfl⟩ _
      (conv => whnf); refine goW (by first | omega | (dsimp only; omega) | (simp; omega)) (by first | omega | (dsimp only; omega) | (simp; omega)) ?_
      (conv => whnf)
      first | (refine ⟨(c - 1, m1, q + 1 + 1 + 1 + 1 + 1 + 1 + 1, .c, v1), ?_, ⟨⟨rfl, rfl, rfl, rfl, rfl, trivial⟩, ⟨rfl, rfl, rfl, trivial⟩, ⟨rfl, rfl, trivial⟩⟩, ?_⟩) | (refine ⟨(c - 1, m1, q + 1 + 1 + 1 + 1 + 1 + 1 + 1, .c2, v1), ?_, ⟨⟨rfl, rfl, rfl, rfl, rfl, trivial⟩, ⟨rfl, rfl, rfl, trivial⟩, ⟨rfl, rfl, trivial⟩⟩, ?_⟩)
      · exact ⟨(by first | omega | (dsimp only; omega) | (simp; omega)), hm1, (by first | omega | (dsimp only; omega) | (simp; omega)), (by first | omega | (dsimp only; omega) | (simp; omega))⟩
      · show (c - 1).toNat < c.toNat; omega
    · (conv => whnf)
      refine ⟨[0, 1, 2, 3, 4, 5, 6, 7, 8, 9], [(0, [5]), (2, [1000]), (9, [5])], (by kernel_rfl), ?_⟩
      (conv => whnf)
      refine goPick hl (by exact ⟨⟨rfl, rfl⟩, trivial⟩) (by first | omega | (dsimp only; omega) | (simp; omega)) (by first | omega | (dsimp only; omega) | (simp; omega)) fun i hi1 hi2 => ?_
      (conv => whnf); refine goW (by first | omega | (dsimp only; omega) | (simp; omega)) (by first | omega | (dsimp only; omega) | (simp; omega)) ?_
      (conv => whnf); refine ⟨[], _, mouthNext_l m _ hok (by first | omega | (dsimp only; omega) | (simp; omega)), trivial, ?_⟩
      rintro o ⟨m1, at1, b1_, hm1, hm2, rfl⟩ _
      (conv => whnf); refine goW (by first | omega | (dsimp only; omega) | (simp; omega)) (by first | omega | (dsimp only; omega) | (simp; omega)) ?_
      (conv => whnf)
      first | (refine ⟨(c - 1, m1, q + 1 + 1, .d, 1), ?_, ⟨⟨rfl, rfl, rfl, rfl, rfl, trivial⟩, ⟨rfl, rfl, rfl, trivial⟩, ⟨rfl, rfl, trivial⟩⟩, ?_⟩) | (refine ⟨(c - 1, m1, q + 1 + 1, .d2, 1), ?_, ⟨⟨rfl, rfl, rfl, rfl, rfl, trivial⟩, ⟨rfl, rfl, rfl, trivial⟩, ⟨rfl, rfl, trivial⟩⟩, ?_⟩)
      · exact ⟨(by first | omega | (dsimp only; omega) | (simp; omega)), hm1, (by first | omega | (dsimp only; omega) | (simp; omega)), (by first | omega | (dsimp only; omega) | (simp; omega))⟩
      · show (c - 1).toNat < c.toNat; omega
end Go.Proofs.Ytpeejmolbmhjjaa.Sx
