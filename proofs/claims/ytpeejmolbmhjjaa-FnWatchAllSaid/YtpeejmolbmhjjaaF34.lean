/- Ends that hear; there is no condition beyond those each statement names. -/
import Derived.Test.YtpeejmolbmhjjaaBE1
namespace Go.Proofs.Ytpeejmolbmhjjaa.Sx
set_option linter.unusedSimpArgs false
set_option linter.unusedVariables false
open Go
set_option maxRecDepth 100000
set_option maxHeartbeats 0
theorem goDr {all : List Oper} {V : List Nat → List (Nat × List Nat) → Prop} (n : Nat) (π : List Nat) (fps : List (Nat × List Nat)) (hn : (all.head?.bind fun o => o.dst) = some n) (h : drawOk all π fps = true) (hv : V π fps) :
    ∃ (π : List Nat) (fps : List (Nat × List Nat)), drawOk all π fps = true ∧ V π fps := ⟨π, fps, h, hv⟩
theorem sgs_app (l : List Seg) (s : Seg) : ((false, [AV.lst 0 0 174 (l.map Seg.c ++ [s.c])]) : PV) = sgs (l ++ [s]) := by
  rw [show sgs (l ++ [s]) = (false, [AV.lst 0 0 174 ((l ++ [s]).map Seg.c)]) from rfl, List.map_append]; rfl
theorem hear_r (e : End) (from_ : Int) (s : Seg) (now : Int) (h : e.small) (hs : s.wk) : Fx 144 [e.v, int from_, s.v, int now] ES2 := by
  by_cases hok : e.okP
  · obtain ⟨w1, w2, w3, w4, w5, w6, w7, w8, w9, w10⟩ := End.ok_wk hok
    refine fn_of_vc tab_ok mixed Try.call144 Try.func144 rfl [] _ _ (by kernel_rfl) rfl rfl rfl ?_
    (conv => whnf); refine goP (endOk_ok' e h) ?_
    rw [decide_eq_true hok]
    (conv => whnf); refine goE (segOk_r s hs) ?_
    rintro _ ⟨x, hx, rfl⟩
    cases x with
    | false =>
      (conv => whnf)
      (refine retE (by rfl) (by rfl) ⟨_, _, ?_, ⟨[], by simp, by simp, rfl⟩, rfl⟩; refine mkEnd (m2 := []) (r3 := []) (m5 := []) (r4 := []) ?_ rfl; (constructor <;> (try dsimp only) <;> first | omega | (simp; done) | (simp; omega)))
    | true =>
      obtain ⟨g1, g2, g3⟩ := hx rfl
      repeat' ((conv => whnf); first
          | (refine goP (l1In_ok _ _ _) ?_)
          | (refine goP (copyE_ok e h) ?_)
          | (refine goDr 78 [0, 1, 2, 3, 4, 5, 6, 7, 8, 9, 10, 11] [(1, [6]), (4, [6]), (6, [4])] rfl (by kernel_rfl) ?_)
          | (refine goDr 92 [0, 1, 2, 3, 4, 5, 6, 7, 8, 9, 10, 11, 12, 13, 14, 15, 16, 17, 18] [(1, [4]), (8, [4]), (12, [6]), (13, [4])] rfl (by kernel_rfl) ?_)
          | (refine goDr 152 [0, 1, 3, 2, 4, 5, 6, 7] [(0, [11]), (3, [11]), (6, [8])] rfl (by kernel_rfl) ?_)
          | (refine goDr 192 [0, 1, 2, 3, 4, 5, 6, 7, 8, 9, 10, 11, 12, 13, 14, 15] [(1, [13]), (4, [13]), (7, [13]), (9, [13])] rfl (by kernel_rfl) ?_)
          | (refine goDr 217 [0, 1, 2, 3, 4, 5, 6, 7, 8, 9, 10, 11] [(1, [6]), (4, [6]), (7, [4])] rfl (by kernel_rfl) ?_)
          | (refine goDr 229 [0, 1, 2, 3, 4, 5] [(0, [11]), (1, [11]), (4, [8])] rfl (by kernel_rfl) ?_)
          | (refine goDr 280 [0, 1, 2, 3, 4, 5, 6, 7, 8, 9, 10, 11, 12, 13, 14, 15] [(1, [11]), (4, [11]), (7, [11]), (9, [11])] rfl (by kernel_rfl) ?_)
          | ((refine goE (seqOf_r _) ?_; rintro _ ⟨n1, hn1, rfl⟩))
          | ((refine goE (wait_r e (by omega)) ?_; rintro _ ⟨n2, hn2, rfl⟩))
          | ((refine goE (wait_x (by (constructor <;> (try dsimp only) <;> first | omega | (simp; done) | (simp; omega)))) ?_; rintro _ ⟨n2, hn2, rfl⟩))
          | ((refine goE (first_r e3 he3) ?_; rintro _ ⟨_, ⟨s1, hs1, rfl⟩, rfl⟩))
          | ((refine goE (first_x (r4 := []) (by (constructor <;> (try dsimp only) <;> first | omega | (simp; done) | (simp; omega)))) ?_; rintro _ ⟨_, ⟨s1, hs1, rfl⟩, rfl⟩))
          | ((refine goE (first_x (by (constructor <;> (try dsimp only) <;> first | omega | (simp; done) | (simp; omega)))) ?_; rintro _ ⟨_, ⟨s1, hs1, rfl⟩, rfl⟩))
          | ((refine goE (told_r e3) ?_; rintro _ ⟨n3, hn3, rfl⟩))
          | ((refine goE (segment_r e3 _ he3) ?_; rintro _ ⟨_, ⟨s1, hs1, rfl⟩, rfl⟩))
          | ((refine goE (arm_r e3 now _ he3 (by omega)) ?_; rintro _ ⟨_, ⟨e5, he5, rfl⟩, rfl⟩))
          | ((refine goE (arm_x (r4 := []) (by (constructor <;> (try dsimp only) <;> first | omega | (simp; done) | (simp; omega))) (by omega)) ?_; rintro _ ⟨_, ⟨e5, he5, rfl⟩, rfl⟩))
          | ((refine goE (arm_x (by (constructor <;> (try dsimp only) <;> first | omega | (simp; done) | (simp; omega))) (by omega)) ?_; rintro _ ⟨_, ⟨e5, he5, rfl⟩, rfl⟩))
          | ((refine goE (took_x (by (constructor <;> (try dsimp only) <;> first | omega | (simp; done) | (simp; omega))) hs) ?_; rintro _ ⟨_, x1, ⟨e1, he1, rfl⟩, rfl⟩))
          | ((refine goE (heardS_r e1 s he1 hs) ?_; rintro _ ⟨_, ⟨e2, he2, rfl⟩, rfl⟩))
          | ((refine goE (heardS_x (by (constructor <;> (try dsimp only) <;> first | omega | (simp; done) | (simp; omega))) hs) ?_; rintro _ ⟨_, ⟨e2, he2, rfl⟩, rfl⟩))
          | ((refine ⟨[], _, flush_l e2 he2, trivial, ?_⟩; rintro o ⟨e3, l3, v3, he3, hl3, hn3, rfl⟩ _; have a1 := he3.heard; have a2 := he3.sent; have a3 : (l3.map Seg.c).length = l3.length := by simp))
          | ((refine ⟨[], _, flush_x (r4 := []) (by (constructor <;> (try dsimp only) <;> first | omega | (simp; done) | (simp; omega))), trivial, ?_⟩; rintro o ⟨e3, l3, v3, he3, hl3, hn3, rfl⟩ _; have a1 := he3.heard; have a2 := he3.sent; have a3 : (l3.map Seg.c).length = l3.length := by simp))
          | ((refine ⟨[], _, flush_x (by (constructor <;> (try dsimp only) <;> first | omega | (simp; done) | (simp; omega))), trivial, ?_⟩; rintro o ⟨e3, l3, v3, he3, hl3, hn3, rfl⟩ _; have a1 := he3.heard; have a2 := he3.sent; have a3 : (l3.map Seg.c).length = l3.length := by simp))
          | ((refine goE (long_r s hs) ?_; rintro _ ⟨n4, hn4, rfl⟩))
          | ((refine goE (seqLess_r _ _) ?_; rintro _ ⟨x2, rfl⟩))
          | ((cases hq; done))
          | ((refine ⟨by show ((l3.map Seg.c).length + 1) * 96 ≤ 140737488355328; omega, rfl, rfl, ?_⟩))
          | (exact retE (by rfl) (by rfl) ⟨_, _, ⟨e5, he5, rfl⟩, ⟨l3, hl3, by omega, rfl⟩, rfl⟩)
          | (exact retE (by rfl) (by rfl) ⟨_, _, ⟨e5, he5, rfl⟩, ⟨[s1], by simpa using hs1, by simp, rfl⟩, rfl⟩)
          | (exact retE (by rfl) (by rfl) ⟨_, _, ⟨e5, he5, rfl⟩, ⟨l3 ++ [s1], by (intro t ht; rcases List.mem_append.1 ht with ht | ht; (exact hl3 t ht); (simp at ht; subst ht; exact hs1)), by simp; omega, by exact sgs_app l3 s1⟩, rfl⟩)
          | ((refine retE (by rfl) (by rfl) ⟨_, _, ?_, ⟨[], by simp, by simp, rfl⟩, rfl⟩; refine mkEnd (m2 := []) (r3 := []) (m5 := []) (r4 := []) ?_ rfl; (constructor <;> (try dsimp only) <;> first | omega | (simp; done) | (simp; omega))))
          | ((refine retE (by rfl) (by rfl) ⟨_, _, ?_, ⟨[], by simp, by simp, rfl⟩, rfl⟩; refine mkEnd ?_ rfl; (constructor <;> (try dsimp only) <;> first | omega | (simp; done) | (simp; omega))))
          | ((refine retE (by rfl) (by rfl) ⟨_, _, ?_, ⟨[s1], by simpa using hs1, by simp, rfl⟩, rfl⟩; refine mkEnd ?_ rfl; (constructor <;> (try dsimp only) <;> first | omega | (simp; done) | (simp; omega))))
          | (split <;> rename_i hq <;> (try simp only [Bool.not_eq_eq_eq_not, Bool.not_true, Bool.not_false, decide_eq_true_eq, decide_eq_false_iff_not, inB_t, inB_f, bytes_len, List.length_map, Bool.and_eq_true, Bool.and_eq_false_iff, and_true] at hq) <;> (try (exfalso; first | omega | (simp_all; done))))
          | (refine goW (by first | omega | (simp; omega)) (by first | omega | (simp; omega)) ?_)
          | (refine ret1 (by rfl) (by rfl) (outB ?_); first | rfl | grind [inB])
          | (refine ret1 (by rfl) (by rfl) (outI ?_); first | rfl | omega | grind [inB])
          | (refine ret1 (by rfl) (by rfl) (outB ?_)) | (refine ret1 (by rfl) (by rfl) (outI ?_)))
  · refine fn_of_vc tab_ok mixed Try.call144 Try.func144 rfl [] _ _ (by kernel_rfl) rfl rfl rfl ?_
    (conv => whnf); refine goP (endOk_ok' e h) ?_
    rw [decide_eq_false hok]
    (conv => whnf)
    (refine retE (by rfl) (by rfl) ⟨_, _, ?_, ⟨[], by simp, by simp, rfl⟩, rfl⟩; refine mkEnd (m2 := []) (r3 := []) (m5 := []) (r4 := []) ?_ rfl; (constructor <;> (try dsimp only) <;> first | omega | (simp; done) | (simp; omega)))
end Go.Proofs.Ytpeejmolbmhjjaa.Sx
