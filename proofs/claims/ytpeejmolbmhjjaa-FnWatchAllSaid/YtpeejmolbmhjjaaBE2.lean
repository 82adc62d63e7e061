/- Texts of the claim, in few files: what the functions of the program come to; there is no condition beyond those each statement names. -/
import Derived.Test.YtpeejmolbmhjjaaF36
import Derived.Test.YtpeejmolbmhjjaaBE0
section
namespace Go.Proofs.Ytpeejmolbmhjjaa.Sx
set_option linter.unusedSimpArgs false
set_option linter.unusedVariables false
open Go
set_option maxRecDepth 100000
set_option maxHeartbeats 0
def SmP (p : PV) : Prop := ∃ e : End, e.small ∧ p = e.v
theorem mkSm {a1 a2 a3 a4 a5 a6 m1 m3 m4 r1 r2 a7 a8 a9 c1 c2 c3 : Int} {m2 r3 : List Int} {m5 : List Rng} {r4 : List Early} {b1 b2 b3 : Bool} {p : PV}
    (h : End.small ⟨a1, a2, a3, a4, a5, a6, ⟨m1, m2, m3, m4, m5⟩, ⟨r1, r2, r3, r4⟩, b1, b2, b3, a7, a8, a9, ⟨c1, c2, c3⟩⟩)
    (hp : p = (true, [.i .i64 a1, .i .i64 a2, .i .i64 a3, .i .i64 a4, .i .i64 a5, .i .i64 a6, .i .i64 m1, .lst 0 0 5 (bytes m2), .i .i64 m3, .i .i64 m4, .lst 0 0 108 (m5.map Rng.c), .i .i64 r1, .i .i64 r2, .lst 0 0 5 (bytes r3), .lst 0 0 138 (r4.map Early.c),
      .b b1, .b b2, .b b3, .i .i64 a7, .i .i64 a8, .i .i64 a9, .i .i64 c1, .i .i64 c2, .i .i64 c3])) : SmP p := ⟨_, h, hp⟩
theorem end_r {l : List Int} (hl : okB l) (p : Int) (hp : 0 ≤ p ∧ p < 300000000000) (n : Int) (hn : n ≤ 1000000000000 ∧ -1000000000000 ≤ n) : Reads 80 l p [int n] fun p' v => (p ≤ p' ∧ p' ≤ p + 50000) ∧ SmP v := by
  refine fn_of_vc tab_ok mixed Try.call80 Try.func80 rfl [(1000, rd l p)] _ _ (by kernel_rfl) rfl rfl rfl ?_
  (conv => whnf); refine ⟨[(1000, rd l p)], _, ends_r hl p (by omega), ⟨⟨rfl, rfl⟩, trivial⟩, ?_⟩
  rintro o ⟨p1, e1, e2, l8, l9, hp1, hw1, hw2, rfl⟩ _
  obtain ⟨s1, s2, s3, s4⟩ := hw1.small
  obtain ⟨u1, u2, u3, u4⟩ := hw2.small
  have x1 := hw1.next
  have x2 := hw2.next
  repeat' ((conv => whnf); first
      | ((refine goPick hl (by exact ⟨⟨rfl, rfl⟩, trivial⟩) (by first | omega | (dsimp only; omega) | (simp; omega)) (by first | omega | (dsimp only; omega) | (simp; omega)) fun i hi1 hi2 => ?_))
      | ((refine goOdd hl (by exact ⟨⟨rfl, rfl⟩, trivial⟩) (by first | omega | (dsimp only; omega) | (simp; omega)) (by first | omega | (dsimp only; omega) | (simp; omega)) fun p2 x hx1 hx2 => ?_))
      | (refine goDr 36 [0, 1, 2, 3, 4, 5, 6, 7, 8] [(2, [9]), (5, [1000]), (8, [9])] rfl (by kernel_rfl) ?_)
      | ((refine retG [] 0 (by rfl) (by rfl) (by rfl) (by rfl) (by rfl) (by rfl) ⟨_, _, ⟨?_, mkSm ?_ rfl⟩, rfl⟩; (focus (first | omega | (dsimp only; omega))); (focus (constructor <;> (try dsimp only) <;> omega))))
      | (split <;> rename_i hq <;> (try simp only [Bool.not_eq_eq_eq_not, Bool.not_true, Bool.not_false, decide_eq_true_eq, decide_eq_false_iff_not, inB_t, inB_f, bytes_len, List.length_map, Bool.and_eq_true, Bool.and_eq_false_iff, and_true] at hq) <;> (try (exfalso; first | omega | (simp_all; done))))
      | (refine goW (by first | omega | (simp; omega)) (by first | omega | (simp; omega)) ?_)
      | (refine ret1 (by rfl) (by rfl) (outB ?_); first | rfl | grind [inB])
      | (refine ret1 (by rfl) (by rfl) (outI ?_); first | rfl | omega | grind [inB])
      | (refine ret1 (by rfl) (by rfl) (outB ?_)) | (refine ret1 (by rfl) (by rfl) (outI ?_)))
end Go.Proofs.Ytpeejmolbmhjjaa.Sx
end

section
namespace Go.Proofs.Ytpeejmolbmhjjaa.Sx
set_option linter.unusedSimpArgs false
set_option linter.unusedVariables false
open Go
set_option maxRecDepth 100000
set_option maxHeartbeats 0
theorem theNew_small (a b c d : Int) : (theNew a b c d).small := by
  unfold theNew; split
  · exact newEnd_small a b c d
  · exact zeroEnd_small
theorem theNew_state (a b c d : Int) : (theNew a b c d).state = 0 := by unfold theNew; split <;> rfl
theorem theNew_n (a b c d : Int) : (theNew a b c d).n ≠ 0 → newP a b c d := by
  unfold theNew; split
  · intro _; assumption
  · intro h; exact absurd rfl h
theorem theNew_pos {a b c d : Int} (h : newP a b c d) : theNew a b c d = newEnd a b c d := if_pos h
theorem law_endNew (l : List Int) (h2 : ∀ x ∈ l, 0 ≤ x ∧ x ≤ 255) : Pure 6 [(false, [.lst 0 0 5 (bytes l)])] (.pv (bool true)) := by
  refine fn_of_vc tab_ok mixed Try.call6 Try.func6 rfl [] _ _ (by kernel_rfl) rfl rfl rfl ?_
  (conv => whnf); split <;> rename_i hq
  · (conv => whnf); exact ret1 (by rfl) (by rfl) (by rfl)
  have hl : l.length ≤ 1048576 := by simp at hq; omega
  (conv => whnf)
  refine ⟨[], _, drawEndNew_r hl h2, trivial, ?_⟩
  rintro o ⟨a, b, c, d, ha, hb, hc, hd, rfl⟩ _
  (conv => whnf); refine goP (endNew_ok a b c d) ?_
  (conv => whnf)
  refine ⟨[0, 1, 2, 3, 4, 5, 6, 7], [(0, [7])], (by kernel_rfl), ?_⟩
  (conv => whnf)
  (conv => whnf); refine goP (endNew_ok' a b c d (by omega)) ?_
  (conv => whnf); refine goP (sameEnd_ok (theNew a b c d) (theNew_small a b c d)) ?_
  have hsm := theNew_small a b c d
  have hfs := hsm.far
  have hgs := hsm.got
  have hst := theNew_state a b c d
  have hk : ¬ (theNew a b c d).n = 0 → (theNew a b c d).okP ∧ (if (theNew a b c d).inn.ok = true then (theNew a b c d).inn.room - ↑(theNew a b c d).inn.got.length else 0) = d := by
    intro h
    have hp := theNew_n a b c d h
    have hok := (newEnd_ok a b c d).2 hp
    rw [theNew_pos hp]
    refine ⟨hok, ?_⟩
    rw [if_pos hok.2.2.2.2.2.2.2.2.1]
    simp [newEnd]
  repeat' ((conv => whnf); first
      | (refine goP (endOk_ok (theNew a b c d) hsm) ?_)
      | (refine goP (earFree_ok (theNew a b c d).inn (by omega) (by omega)) ?_)
      | (refine goP (endNew_ok 1 7 5 9) ?_)
      | (split <;> rename_i hq <;> (try simp only [Bool.not_eq_eq_eq_not, Bool.not_true, Bool.not_false, decide_eq_true_eq, decide_eq_false_iff_not, inB_t, inB_f, bytes_len, List.length_map, Bool.and_eq_true, Bool.and_eq_false_iff, and_true] at hq) <;> (try (exfalso; first | omega | (simp_all; done))))
      | (refine goW (by first | omega | (simp; omega)) (by first | omega | (simp; omega)) ?_)
      | (refine ret1 (by rfl) (by rfl) (outB ?_); first | rfl | grind [inB])
      | (refine ret1 (by rfl) (by rfl) (outI ?_); first | rfl | omega | grind [inB])
      | (refine ret1 (by rfl) (by rfl) (outB ?_)) | (refine ret1 (by rfl) (by rfl) (outI ?_)))
end Go.Proofs.Ytpeejmolbmhjjaa.Sx
end

section
namespace Go.Proofs.Ytpeejmolbmhjjaa.Sx
set_option linter.unusedSimpArgs false
set_option linter.unusedVariables false
open Go
set_option maxRecDepth 100000
set_option maxHeartbeats 0
theorem law8 (e : End) (hf : e.fits) : Pure 8 [(true, e.cL)] (.pv (bool true)) := by
  refine fn_of_vc tab_ok mixed Try.call8 Try.func8 rfl [] _ _ (by kernel_rfl) rfl rfl rfl ?_
  (conv => whnf); refine goP (szEnd_ok e 1048576 (by omega) hf) ?_
  (conv => whnf); split <;> rename_i hq <;> simp only [decide_eq_true_eq, decide_eq_false_iff_not] at hq
  · (conv => whnf); exact ret1 (by rfl) (by rfl) (by rfl)
  have hs := szT_small (by omega) hq
  (conv => whnf); refine goP (toEnd_ok e hs) ?_
  (conv => whnf); refine goP (endOk_ok' e hs) ?_
  (conv => whnf); refine goP (toEnd_ok e hs) ?_
  (conv => whnf); refine goP (endOk_ok e hs) ?_
  (conv => whnf); split <;> rename_i hq2
  · simp at hq2
  (conv => whnf)
  refine ⟨[0, 1, 2, 3, 4], [(0, [5]), (1, [1])], (by kernel_rfl), ?_⟩
  (conv => whnf)
  refine goP (toEnd_ok e hs) ?_
  (conv => whnf); refine goP (eqEnd_ok e hs) ?_
  (conv => whnf); exact ret1 (by rfl) (by rfl) (by rfl)
theorem law9 (e : End) (hf : e.fits) : Pure 9 [(true, e.cL)] (.pv (bool true)) := by
  refine fn_of_vc tab_ok mixed Try.call9 Try.func9 rfl [] _ _ (by kernel_rfl) rfl rfl rfl ?_
  (conv => whnf); refine goP (szEnd_ok e 1048576 (by omega) hf) ?_
  (conv => whnf); split <;> rename_i hq <;> simp only [decide_eq_true_eq, decide_eq_false_iff_not] at hq
  · (conv => whnf); exact ret1 (by rfl) (by rfl) (by rfl)
  have hs := szT_small (by omega) hq
  (conv => whnf); refine goP (toEnd_ok e hs) ?_
  (conv => whnf); refine goP (endOver_ok' e hs) ?_
  (conv => whnf); refine goP (toEnd_ok e hs) ?_
  (conv => whnf); refine goP (endOver_ok e hs) ?_
  (conv => whnf); split <;> rename_i hq2
  · simp at hq2
  (conv => whnf)
  refine ⟨[0, 1, 2, 3, 4], [(0, [5]), (1, [1])], (by kernel_rfl), ?_⟩
  (conv => whnf)
  refine goP (toEnd_ok e hs) ?_
  (conv => whnf); refine goP (eqEnd_ok e hs) ?_
  (conv => whnf); exact ret1 (by rfl) (by rfl) (by rfl)
theorem law10 (e : End) (hf : e.fits) : Pure 10 [(true, e.cL)] (.pv (bool true)) := by
  refine fn_of_vc tab_ok mixed Try.call10 Try.func10 rfl [] _ _ (by kernel_rfl) rfl rfl rfl ?_
  (conv => whnf); refine goP (szEnd_ok e 1048576 (by omega) hf) ?_
  (conv => whnf); split <;> rename_i hq <;> simp only [decide_eq_true_eq, decide_eq_false_iff_not] at hq
  · (conv => whnf); exact ret1 (by rfl) (by rfl) (by rfl)
  have hs := szT_small (by omega) hq
  (conv => whnf); refine goP (toEnd_ok e hs) ?_
  (conv => whnf); refine goP (ready_ok' e hs) ?_
  (conv => whnf); refine goP (toEnd_ok e hs) ?_
  (conv => whnf); refine goP (ready_ok e hs) ?_
  (conv => whnf); split <;> rename_i hq2
  · simp at hq2
  (conv => whnf)
  refine ⟨[0, 1, 2, 3, 4], [(0, [5]), (1, [1])], (by kernel_rfl), ?_⟩
  (conv => whnf)
  refine goP (toEnd_ok e hs) ?_
  (conv => whnf); refine goP (eqEnd_ok e hs) ?_
  (conv => whnf); exact ret1 (by rfl) (by rfl) (by rfl)
theorem toWatch_ok (r : Watch) : Pure 47 [r.v] (.pv r.v) := by
  refine fn_of_vc tab_ok mixed Try.call47 Try.func47 rfl [] _ _ (by kernel_rfl) rfl rfl rfl ?_
  (conv => whnf); exact ret1 (by rfl) (by rfl) (by rfl)
theorem eqWatch_ok (r : Watch) : Pure 48 [r.v, r.v] (.pv (bool true)) := by
  refine fn_of_vc tab_ok mixed Try.call48 Try.func48 rfl [] _ _ (by kernel_rfl) rfl rfl rfl ?_
  repeat' ((conv => whnf); first
      | (fail)
      | (split <;> rename_i hq <;> (try simp only [Bool.not_eq_eq_eq_not, Bool.not_true, Bool.not_false, decide_eq_true_eq, decide_eq_false_iff_not, inB_t, inB_f, bytes_len, List.length_map, Bool.and_eq_true, Bool.and_eq_false_iff, and_true] at hq) <;> (try (exfalso; first | omega | (simp_all; done))))
      | (refine goW (by first | omega | (simp; omega)) (by first | omega | (simp; omega)) ?_)
      | (refine ret1 (by rfl) (by rfl) (outB ?_); first | rfl | grind [inB])
      | (refine ret1 (by rfl) (by rfl) (outI ?_); first | rfl | omega | grind [inB])
      | (refine ret1 (by rfl) (by rfl) (outB ?_)) | (refine ret1 (by rfl) (by rfl) (outI ?_)))
theorem law11 (w : Watch) (e : End) (hf : e.fits) : Pure 11 [w.v, (true, e.cL)] (.pv (bool true)) := by
  refine fn_of_vc tab_ok mixed Try.call11 Try.func11 rfl [] _ _ (by kernel_rfl) rfl rfl rfl ?_
  (conv => whnf); refine goP (szEnd_ok e 1048576 (by omega) hf) ?_
  (conv => whnf); split <;> rename_i hq <;> simp only [decide_eq_true_eq, decide_eq_false_iff_not] at hq
  · (conv => whnf); exact ret1 (by rfl) (by rfl) (by rfl)
  have hs := szT_small (by omega) hq
  (conv => whnf)
  refine ⟨[0, 2, 1, 3, 4, 5], [(0, [2]), (2, [3])], (by kernel_rfl), ?_⟩
  (conv => whnf)
  refine goP (toWatch_ok w) ?_
  (conv => whnf); refine goP (toEnd_ok e hs) ?_
  (conv => whnf); refine goP (watchLevel_ok' w e hs) ?_
  (conv => whnf); refine goP (toEnd_ok e hs) ?_
  (conv => whnf)
  refine ⟨[0, 2, 1, 3, 4], [(0, [2]), (2, [7])], (by kernel_rfl), ?_⟩
  (conv => whnf)
  refine goP (toWatch_ok w) ?_
  (conv => whnf); refine goP (watchLevel_ok w e hs) ?_
  (conv => whnf); split <;> rename_i hq2
  · simp at hq2
  (conv => whnf)
  refine ⟨[0, 1, 2, 3, 4], [(0, [7]), (1, [3])], (by kernel_rfl), ?_⟩
  (conv => whnf)
  refine goP (toEnd_ok e hs) ?_
  (conv => whnf); refine goP (eqEnd_ok e hs) ?_
  (conv => whnf); exact ret1 (by rfl) (by rfl) (by rfl)
theorem law12 (w : Watch) (e : End) (hf : e.fits) : Pure 12 [w.v, (true, e.cL)] (.pv (bool true)) := by
  refine fn_of_vc tab_ok mixed Try.call12 Try.func12 rfl [] _ _ (by kernel_rfl) rfl rfl rfl ?_
  (conv => whnf); refine goP (szEnd_ok e 1048576 (by omega) hf) ?_
  (conv => whnf); split <;> rename_i hq <;> simp only [decide_eq_true_eq, decide_eq_false_iff_not] at hq
  · (conv => whnf); exact ret1 (by rfl) (by rfl) (by rfl)
  have hs := szT_small (by omega) hq
  (conv => whnf)
  refine ⟨[0, 2, 8, 1, 3, 4, 5, 6, 7, 9, 10], [(0, [2]), (2, [3]), (9, [6])], (by kernel_rfl), ?_⟩
  (conv => whnf)
  refine goP (toWatch_ok w) ?_
  (conv => whnf); refine goP (toEnd_ok e hs) ?_
  (conv => whnf); refine goP (watchEdge_ok' w e hs) ?_
  (conv => whnf); refine goP (toEnd_ok e hs) ?_
  (conv => whnf)
  refine ⟨[0, 2, 7, 1, 3, 4, 5, 6, 8, 9], [(0, [2]), (2, [8]), (8, [9])], (by kernel_rfl), ?_⟩
  (conv => whnf)
  refine goP (toWatch_ok w) ?_
  (conv => whnf); refine goP (watchEdge_ok w e hs) ?_
  (conv => whnf); refine goP (eqWatch_ok _) ?_
  (conv => whnf); split <;> rename_i hq2
  · simp at hq2
  (conv => whnf)
  refine ⟨[0, 1, 2, 3, 4], [(0, [8]), (1, [3])], (by kernel_rfl), ?_⟩
  (conv => whnf)
  refine goP (toEnd_ok e hs) ?_
  (conv => whnf); refine goP (eqEnd_ok e hs) ?_
  (conv => whnf); exact ret1 (by rfl) (by rfl) (by rfl)
end Go.Proofs.Ytpeejmolbmhjjaa.Sx
end

section
namespace Go.Proofs.Ytpeejmolbmhjjaa.Sx
set_option linter.unusedSimpArgs false
set_option linter.unusedVariables false
open Go
set_option maxRecDepth 100000
set_option maxHeartbeats 0
theorem bytesOf_ok : Pure 136 [int 5, int 1] (.pv (false, [.lst 0 0 5 [[.i .u8 5]]])) := by
  refine fn_of_vc tab_ok mixed Try.call136 Try.func136 rfl [] _ _ (by kernel_rfl) rfl rfl rfl ?_
  (conv => whnf)
  refine ⟨rfl, by decide, by decide, by decide, ?_⟩
  (conv => whnf); refine goW (by omega) (by omega) ?_
  (conv => whnf)
  refine ⟨Nat, fun x => x ≤ 1, fun x => ⟨[(0, .one (.i .i64 (5 - 5 * x))), (5, .one (.row 8 1 5)), (6, .one (.i .i64 (-x)))], [(8, [.i .u8 (5 * x)])], [(1, 0)], [8], [1]⟩, fun x => 1 - x, 0, fun x => rfl, ?_, (by refine ⟨?_, ?_, ?_⟩ <;> repeat' (first | exact trivial | refine ⟨rfl, ?_⟩)), ?_⟩
  · show 0 ≤ 1; omega
  rintro k hk
  obtain rfl | rfl : k = 0 ∨ k = 1 := by have : k ≤ 1 := hk; omega
  · (conv => whnf); refine ⟨5, by decide, ?_⟩
    (conv => whnf); refine ⟨by decide, ?_⟩
    (conv => whnf); refine ⟨by decide, 0, by decide, ?_⟩
    (conv => whnf); refine ⟨-1, by decide, ?_⟩
    (conv => whnf)
    refine ⟨1, ?_, (by refine ⟨?_, ?_, ?_⟩ <;> repeat' (first | exact trivial | refine ⟨rfl, ?_⟩)), ?_⟩
    · show 1 ≤ 1; omega
    · show 1 - 1 < 1 - 0; omega
  · (conv => whnf)
    refine retRow (by rfl) (by rfl) (by rfl) (by rfl) (by rfl) (by rfl) (by rfl) ?_ ?_
    · intro x hx
      simp [stripV, AV.strip] at hx; subst hx; rfl
    · rfl
theorem bytesOf5_ok : Pure 86 [int 5, int 1] (.pv (false, [.lst 0 0 5 [[.i .u8 5]]])) := by
  refine fn_of_vc tab_ok mixed Try.call86 Try.func86 rfl [] _ _ (by kernel_rfl) rfl rfl rfl ?_
  (conv => whnf); refine goP (in_ok 1 1 4) ?_
  (conv => whnf); refine ⟨8, by decide, ?_⟩
  (conv => whnf); refine ⟨by decide, 256, by decide, ?_⟩
  (conv => whnf); refine ⟨255, by decide, ?_⟩
  (conv => whnf); refine goP (in_ok 5 0 255) ?_
  (conv => whnf); refine goP bytesOf_ok ?_
  (conv => whnf); exact ret1 (by rfl) (by rfl) (by rfl)
theorem bytesOf256_ok : Pure 86 [int 256, int 1] (.pv (false, [.lst 0 0 5 []])) := by
  refine fn_of_vc tab_ok mixed Try.call86 Try.func86 rfl [] _ _ (by kernel_rfl) rfl rfl rfl ?_
  (conv => whnf); refine goP (in_ok 1 1 4) ?_
  (conv => whnf); refine ⟨8, by decide, ?_⟩
  (conv => whnf); refine ⟨by decide, 256, by decide, ?_⟩
  (conv => whnf); refine ⟨255, by decide, ?_⟩
  (conv => whnf); refine goP (in_ok 256 0 255) ?_
  (conv => whnf); exact ret1 (by rfl) (by rfl) (by rfl)
theorem alive_ok : Pure 23 [] (.pv (bool true)) := by
  refine fn_of_vc tab_ok mixed Try.call23 Try.func23 rfl [] _ _ (by kernel_rfl) rfl rfl rfl ?_
  (conv => whnf); refine goP bytesOf5_ok ?_
  (conv => whnf); refine goP bytesOf256_ok ?_
  (conv => whnf); exact ret1 (by rfl) (by rfl) (by rfl)
end Go.Proofs.Ytpeejmolbmhjjaa.Sx
end

section
namespace Go.Proofs.Ytpeejmolbmhjjaa.Sx
set_option linter.unusedSimpArgs false
set_option linter.unusedVariables false
open Go
set_option maxRecDepth 100000
set_option maxHeartbeats 0
theorem goEnd {b : Nat} {l : List Int} {p n : Int} {M : Nat → Option (List AV)} {ok : Nat → Bool} {K : List (Nat × List AV) → Out → Prop} (hl : okB l) (hm : memIs M ok [(b, rd l p)]) (hp : 0 ≤ p ∧ p < 300000000000) (hn : n ≤ 1000000000000 ∧ -1000000000000 ≤ n)
    (hk : ∀ p' (e : End), p ≤ p' → p' ≤ p + 50000 → e.small → K [(b, rd l p)] { mem := [rd l p'], res := .pv e.v }) :
    ∃ (m : List (Nat × List AV)) (R : Out → Prop), FnM Try.prog 80 m [(false, [.ptr b 0]), int n] R ∧ memIs M ok m ∧ ∀ o, R o → (o.tk.all fun x => Nat.ble 2 x.1 && Nat.blt x.1 9) = true → K m o :=
  goRd (end_r hl p hp n hn) rfl (by rintro p' v ⟨_, e, _, rfl⟩; rfl) hm (by rintro p' v ⟨⟨h1, h2⟩, e, h3, rfl⟩; exact hk p' e h1 h2 h3)
theorem goWatch {b : Nat} {l : List Int} {p n : Int} {M : Nat → Option (List AV)} {ok : Nat → Bool} {K : List (Nat × List AV) → Out → Prop} (hl : okB l) (hm : memIs M ok [(b, rd l p)]) (hp : 0 ≤ p ∧ p < 300000000000) (hn : n ≤ 1000000000000 ∧ -1000000000000 ≤ n)
    (hk : ∀ p' (w : Watch), p ≤ p' → p' ≤ p + 4 → K [(b, rd l p)] { mem := [rd l p'], res := .pv w.v }) :
    ∃ (m : List (Nat × List AV)) (R : Out → Prop), FnM Try.prog 79 m [(false, [.ptr b 0]), int n] R ∧ memIs M ok m ∧ ∀ o, R o → (o.tk.all fun x => Nat.ble 2 x.1 && Nat.blt x.1 9) = true → K m o :=
  goRd (watch_r hl p (by omega) n hn) rfl (by rintro p' v ⟨_, w, _, rfl⟩; rfl) hm (by rintro p' v ⟨⟨h1, h2⟩, w, _, rfl⟩; exact hk p' w h1 h2)
theorem drawEndOk_r {l : List Int} (hl : l.length ≤ 1048576) (h2 : ∀ x ∈ l, 0 ≤ x ∧ x ≤ 255) : Fx 65 [byts l] fun v => ∃ e : End, e.small ∧ v = .pv e.v := by
  refine fn_of_vc tab_ok mixed Try.call65 Try.func65 rfl [] _ _ (by kernel_rfl) rfl rfl rfl ?_
  (conv => whnf)
  refine ⟨[], _, open_r hl h2, trivial, ?_⟩
  rintro o ⟨l', hl', rfl⟩ _
  (conv => whnf); refine goEnd hl' (by exact ⟨⟨rfl, rfl⟩, trivial⟩) (by first | omega | (dsimp only; omega) | (simp; omega)) (by first | omega | (dsimp only; omega) | (simp; omega)) fun p1 e h3 h4 h5 => ?_
  (conv => whnf)
  exact retE (by rfl) (by rfl) ⟨e, h5, rfl⟩
theorem law15 (l : List Int) (h2 : ∀ x ∈ l, 0 ≤ x ∧ x ≤ 255) : Pure 15 [byts l] (.pv (bool true)) := by
  refine fn_of_vc tab_ok mixed Try.call15 Try.func15 rfl [] _ _ (by kernel_rfl) rfl rfl rfl ?_
  (conv => whnf); split <;> rename_i hq
  · (conv => whnf); exact ret1 (by rfl) (by rfl) (by rfl)
  have hl : l.length ≤ 1048576 := by simp at hq; omega
  (conv => whnf); refine goE (drawEndOk_r hl h2) ?_
  rintro _ ⟨e, he, rfl⟩
  have he2 : ({ e with state := 5, due := 0 } : End).small := ⟨he.keep, he.early, he.got, he.far⟩
  have hov : e.okP → e.state = 4 → ({ e with state := 5, due := 0 } : End).okP := by
    rintro ⟨h1, h2, h3, h4, h5, h6, h7, h8, h9, h10, h11, h12, h13, h14, h15, h16⟩ h4s
    refine ⟨by dsimp only; omega, h2, h3, h4, h5, h6, h7, h8, h9, h10, by dsimp only; omega, h12, ?_, by dsimp only; omega, by dsimp only; omega, .inr ⟨rfl, .inr rfl⟩⟩
    obtain ⟨l1, l2, l3⟩ := h13
    refine ⟨l1, fun h => ⟨(l2 h).1, (l2 h).2.1, by dsimp only; omega⟩, ?_⟩
    rcases l3 with l3 | ⟨l3, l4, l5⟩
    · exact .inl l3
    · exact .inr ⟨l3, l4, by dsimp only; omega⟩
  have hnew : (theNew 1 7 5 9).okP := by
    rw [theNew_pos (show newP 1 7 5 9 by unfold newP; omega)]; exact (newEnd_ok 1 7 5 9).2 (by unfold newP; omega)
  by_cases hok : e.okP
  · repeat' ((conv => whnf); first
     | ((refine goP (endOk_ok e he) ?_; rw [decide_eq_true hok]))
     | ((refine goP (endOk_ok' e he) ?_; rw [decide_eq_true hok]))
     | ((refine goP (endOk_ok { e with state := 5, due := 0 } he2) ?_; rw [decide_eq_true (hov hok (by omega))]))
     | (refine goP (endNew_ok 1 7 5 9) ?_)
     | ((refine goP (endOk_ok _ (theNew_small 1 7 5 9)) ?_; rw [decide_eq_true hnew]))
     | (refine goP alive_ok ?_)
     | (exact ret1 (by rfl) (by rfl) (by rfl))
     | (split <;> rename_i hq <;> (try simp only [Bool.not_eq_eq_eq_not, Bool.not_true, Bool.not_false, decide_eq_true_eq, decide_eq_false_iff_not, inB_t, inB_f, bytes_len, List.length_map, Bool.and_eq_true, Bool.and_eq_false_iff, and_true] at hq) <;> (try (exfalso; first | omega | (simp_all; done))))
     | (refine goW (by first | omega | (simp; omega)) (by first | omega | (simp; omega)) ?_)
     | (refine ret1 (by rfl) (by rfl) (outB ?_); first | rfl | grind [inB])
     | (refine ret1 (by rfl) (by rfl) (outI ?_); first | rfl | omega | grind [inB])
     | (refine ret1 (by rfl) (by rfl) (outB ?_)) | (refine ret1 (by rfl) (by rfl) (outI ?_)))
  · repeat' ((conv => whnf); first
     | ((refine goP (endOk_ok e he) ?_; rw [decide_eq_false hok]))
     | ((refine goP (endOk_ok' e he) ?_; rw [decide_eq_false hok]))
     | (refine goP (endNew_ok 1 7 5 9) ?_)
     | ((refine goP (endOk_ok _ (theNew_small 1 7 5 9)) ?_; rw [decide_eq_true hnew]))
     | (refine goP alive_ok ?_)
     | (exact ret1 (by rfl) (by rfl) (by rfl))
     | (split <;> rename_i hq <;> (try simp only [Bool.not_eq_eq_eq_not, Bool.not_true, Bool.not_false, decide_eq_true_eq, decide_eq_false_iff_not, inB_t, inB_f, bytes_len, List.length_map, Bool.and_eq_true, Bool.and_eq_false_iff, and_true] at hq) <;> (try (exfalso; first | omega | (simp_all; done))))
     | (refine goW (by first | omega | (simp; omega)) (by first | omega | (simp; omega)) ?_)
     | (refine ret1 (by rfl) (by rfl) (outB ?_); first | rfl | grind [inB])
     | (refine ret1 (by rfl) (by rfl) (outI ?_); first | rfl | omega | grind [inB])
     | (refine ret1 (by rfl) (by rfl) (outB ?_)) | (refine ret1 (by rfl) (by rfl) (outI ?_)))
theorem drawWatchLevel_r {l : List Int} (hl : l.length ≤ 1048576) (h2 : ∀ x ∈ l, 0 ≤ x ∧ x ≤ 255) : Fx 18 [byts l] fun v => ∃ (w : Watch) (e : End), e.small ∧ v = .tup [w.v, e.v] := by
  refine fn_of_vc tab_ok mixed Try.call18 Try.func18 rfl [] _ _ (by kernel_rfl) rfl rfl rfl ?_
  (conv => whnf)
  refine ⟨[], _, open_r hl h2, trivial, ?_⟩
  rintro o ⟨l', hl', rfl⟩ _
  (conv => whnf); refine goWatch hl' (by exact ⟨⟨rfl, rfl⟩, trivial⟩) (by first | omega | (dsimp only; omega) | (simp; omega)) (by first | omega | (dsimp only; omega) | (simp; omega)) fun p1 w h3 h4 => ?_
  (conv => whnf); refine goEnd hl' (by exact ⟨⟨rfl, rfl⟩, trivial⟩) (by first | omega | (dsimp only; omega) | (simp; omega)) (by first | omega | (dsimp only; omega) | (simp; omega)) fun p2 e h5 h6 h7 => ?_
  (conv => whnf)
  exact retE (by rfl) (by rfl) ⟨w, e, h7, rfl⟩
theorem drawWatchEdge_r {l : List Int} (hl : l.length ≤ 1048576) (h2 : ∀ x ∈ l, 0 ≤ x ∧ x ≤ 255) : Fx 24 [byts l] fun v => ∃ (w : Watch) (e : End), e.small ∧ v = .tup [w.v, e.v] := by
  refine fn_of_vc tab_ok mixed Try.call24 Try.func24 rfl [] _ _ (by kernel_rfl) rfl rfl rfl ?_
  (conv => whnf)
  refine ⟨[], _, open_r hl h2, trivial, ?_⟩
  rintro o ⟨l', hl', rfl⟩ _
  (conv => whnf); refine goWatch hl' (by exact ⟨⟨rfl, rfl⟩, trivial⟩) (by first | omega | (dsimp only; omega) | (simp; omega)) (by first | omega | (dsimp only; omega) | (simp; omega)) fun p1 w h3 h4 => ?_
  (conv => whnf); refine goEnd hl' (by exact ⟨⟨rfl, rfl⟩, trivial⟩) (by first | omega | (dsimp only; omega) | (simp; omega)) (by first | omega | (dsimp only; omega) | (simp; omega)) fun p2 e h5 h6 h7 => ?_
  (conv => whnf)
  exact retE (by rfl) (by rfl) ⟨w, e, h7, rfl⟩
theorem bk8 : ∀ a b : Fin 8, bothK (a.val : Int) (b.val : Int) 3 ≤ (a.val : Int) ∧ bothK (bothK (a.val : Int) (b.val : Int) 3) (b.val : Int) 3 = bothK (a.val : Int) (b.val : Int) 3 ∧ bothK 7 (b.val : Int) 3 = (b.val : Int) ∧ bothK (a.val : Int) 0 3 = 0 := by decide
theorem bk (a b : Int) (ha : 0 ≤ a ∧ a ≤ 7) (hb : 0 ≤ b ∧ b ≤ 7) : bothK a b 3 ≤ a ∧ bothK (bothK a b 3) b 3 = bothK a b 3 ∧ bothK 7 b 3 = b ∧ bothK a 0 3 = 0 := by
  have := bk8 ⟨a.toNat, by omega⟩ ⟨b.toNat, by omega⟩
  simpa only [Int.toNat_of_nonneg ha.1, Int.toNat_of_nonneg hb.1] using this
theorem law3 (l : List Int) (h2 : ∀ x ∈ l, 0 ≤ x ∧ x ≤ 255) : Pure 3 [byts l] (.pv (bool true)) := by
  refine fn_of_vc tab_ok mixed Try.call3 Try.func3 rfl [] _ _ (by kernel_rfl) rfl rfl rfl ?_
  (conv => whnf); split <;> rename_i hq
  · (conv => whnf); exact ret1 (by rfl) (by rfl) (by rfl)
  have hl : l.length ≤ 1048576 := by simp at hq; omega
  (conv => whnf); refine goE (drawWatchLevel_r hl h2) ?_
  rintro _ ⟨w, e, he, rfl⟩
  have hr := ready_r e
  have h7 : (⟨7, 0⟩ : Watch).level e = e.ready := by
    rw [Watch.level, if_pos ⟨by decide, by decide, by decide⟩]; exact (bk 7 e.ready (by omega) hr).2.2.1
  have hlv := level_r w e
  have h8 : w.okP → (⟨w.level e, 0⟩ : Watch).level e = w.level e ∧ w.level e ≤ w.asks := by
    intro hok
    have hb := bk w.asks e.ready hok.1 hr
    have hb2 := bk (w.level e) 0 hlv (by omega)
    refine ⟨?_, by rw [Watch.level, if_pos hok]; exact hb.1⟩
    rw [Watch.level, if_pos ⟨hlv, by dsimp only; omega, hb2.2.2.2⟩]
    show bothK (w.level e) e.ready 3 = w.level e
    rw [Watch.level, if_pos hok]; exact hb.2.1
  (conv => whnf); refine goP (watchLevel_ok w e he) ?_
  (conv => whnf); refine goP (watchLevel_ok' w e he) ?_
  by_cases hok : w.okP
  · repeat' ((conv => whnf); first
     | (refine goDr 22 [0, 1, 2, 3, 4, 5, 6, 8, 7, 9, 10, 11, 12, 13, 14, 15, 16, 17, 18, 19, 21, 20, 22, 23, 24, 25, 26, 27, 28] [(0, [3]), (6, [4]), (13, [3]), (19, [4]), (21, [4])] rfl (by kernel_rfl) ?_)
     | ((refine goP (watchOk_ok w) ?_; rw [decide_eq_true hok]))
     | ((refine goP (watchLevel_ok ⟨w.level e, 0⟩ e he) ?_; rw [(h8 hok).1]))
     | ((refine goP (watchLevel_ok ⟨7, 0⟩ e he) ?_; rw [h7]))
     | (refine goP (ready_ok e he) ?_)
     | (refine goP alive_ok ?_)
     | (exact ret1 (by rfl) (by rfl) (by rfl))
     | (split <;> rename_i hq <;> (try simp only [Bool.not_eq_eq_eq_not, Bool.not_true, Bool.not_false, decide_eq_true_eq, decide_eq_false_iff_not, inB_t, inB_f, bytes_len, List.length_map, Bool.and_eq_true, Bool.and_eq_false_iff, and_true] at hq) <;> (try (exfalso; omega)))
     | (refine goW (by first | omega | (simp; omega)) (by first | omega | (simp; omega)) ?_)
     | (refine ret1 (by rfl) (by rfl) (outB ?_); first | rfl | grind [inB])
     | (refine ret1 (by rfl) (by rfl) (outI ?_); first | rfl | omega | grind [inB])
     | (refine ret1 (by rfl) (by rfl) (outB ?_)) | (refine ret1 (by rfl) (by rfl) (outI ?_)))
  · repeat' ((conv => whnf); first
     | (refine goDr 22 [0, 1, 2, 3, 4, 5, 6, 8, 7, 9, 10, 11, 12, 13, 14, 15, 16, 17, 18, 19, 21, 20, 22, 23, 24, 25, 26, 27, 28] [(0, [3]), (6, [4]), (13, [3]), (19, [4]), (21, [4])] rfl (by kernel_rfl) ?_)
     | ((refine goP (watchOk_ok w) ?_; rw [decide_eq_false hok]))
     | ((refine goP (watchLevel_ok ⟨7, 0⟩ e he) ?_; rw [h7]))
     | (refine goP (ready_ok e he) ?_)
     | (refine goP alive_ok ?_)
     | (exact ret1 (by rfl) (by rfl) (by rfl))
     | (split <;> rename_i hq <;> (try simp only [Bool.not_eq_eq_eq_not, Bool.not_true, Bool.not_false, decide_eq_true_eq, decide_eq_false_iff_not, inB_t, inB_f, bytes_len, List.length_map, Bool.and_eq_true, Bool.and_eq_false_iff, and_true] at hq) <;> (try (exfalso; omega)))
     | (refine goW (by first | omega | (simp; omega)) (by first | omega | (simp; omega)) ?_)
     | (refine ret1 (by rfl) (by rfl) (outB ?_); first | rfl | grind [inB])
     | (refine ret1 (by rfl) (by rfl) (outI ?_); first | rfl | omega | grind [inB])
     | (refine ret1 (by rfl) (by rfl) (outB ?_)) | (refine ret1 (by rfl) (by rfl) (outI ?_)))
end Go.Proofs.Ytpeejmolbmhjjaa.Sx
end
