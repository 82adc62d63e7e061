/- Two ends and what lies between them; there is no condition beyond those each statement names. -/
import Derived.Test.YtpeejmolbmhjjaaF34
import Derived.Test.YtpeejmolbmhjjaaBE1
import Derived.Test.YtpeejmolbmhjjaaBE0
namespace Go.Proofs.Ytpeejmolbmhjjaa.Sx
set_option linter.unusedSimpArgs false
set_option linter.unusedVariables false
open Go
set_option maxRecDepth 100000
set_option maxHeartbeats 0
theorem theNew_wk (a b c d : Int) : (theNew a b c d).wk := by
  unfold theNew
  split
  · rename_i h; exact End.ok_wk ((newEnd_ok a b c d).2 h)
  · exact zeroEnd_wk
theorem sg_get {l : List Seg} (h : ∀ s ∈ l, s.wk) (hl : 0 < l.length) : ∃ s : Seg, s.wk ∧ (l.map Seg.c)[0]? = some s.c := by
  cases l with
  | nil => simp at hl
  | cons s r => exact ⟨s, h s (by simp), rfl⟩
theorem sg_app {l q : List Seg} (h : ∀ s ∈ l, s.wk) (hq : ∀ s ∈ q, s.wk) : ∀ s ∈ l ++ q, s.wk := fun s hs => (List.mem_append.1 hs).elim (h s) (hq s)
theorem sg_drop {l : List Seg} (h : ∀ s ∈ l, s.wk) : ∀ s ∈ l.drop 1, s.wk := fun s hs => h s (List.mem_of_mem_drop hs)
/-- Where the two ends and their segments stand. -/
structure Tk where
  t : Int
  p : Int
  e1 : End
  e2 : End
  l8 : List Seg
  l9 : List Seg
  c8 : List (List AV)
  c9 : List (List AV)
  v8 : Nat
  v9 : Nat
theorem k3 (a b c i : Int) (h0 : 0 ≤ i) (h : i < 3) : ∃ n, (n = a ∨ n = b ∨ n = c) ∧ ([[.i .i64 a], [.i .i64 b], [.i .i64 c]] : List (List AV))[i.toNat]? = some [.i .i64 n] := by
  rcases (by omega : i = 0 ∨ i = 1 ∨ i = 2) with rfl | rfl | rfl
  · exact ⟨a, .inl rfl, rfl⟩
  · exact ⟨b, .inr (.inl rfl), rfl⟩
  · exact ⟨c, .inr (.inr rfl), rfl⟩
def Tk.ok (p0 : Int) (x : Tk) : Prop := (0 ≤ x.t ∧ x.t ≤ 30) ∧ (p0 ≤ x.p ∧ x.p ≤ p0 + 10 + 1000 * (30 - x.t)) ∧ (x.e1.wk ∧ x.e2.wk) ∧ ((∀ s ∈ x.l8, s.wk) ∧ ∀ s ∈ x.l9, s.wk) ∧ (x.c8 = x.l8.map Seg.c ∧ x.c9 = x.l9.map Seg.c) ∧ (x.l8.length : Int) ≤ 200 + 200 * (30 - x.t) ∧ (x.l9.length : Int) ≤ 200 + 200 * (30 - x.t)
theorem ends_r {l : List Int} (hl : okB l) (p0 : Int) (hp : 0 ≤ p0 ∧ p0 < 400000000000) : FnM Try.prog 87 [(1000, rd l p0)] [(false, [.ptr 1000 0])] fun o => ∃ (p : Int) (e1 e2 : End) (l8 l9 : List Seg), (p0 ≤ p ∧ p ≤ p0 + 40000) ∧ e1.wk ∧ e2.wk ∧ o = { mem := [rd l p], res := .tup [e1.v, e2.v, sgs l8, sgs l9] } := by
  refine fn_of_vc tab_ok mixed Try.call87 Try.func87 rfl [(1000, rd l p0)] _ _ (by kernel_rfl) rfl rfl rfl ?_
  repeat' ((conv => whnf); first
      | ((refine goPick hl (by exact ⟨⟨rfl, rfl⟩, trivial⟩) (by first | omega | (dsimp only; omega) | (simp; omega)) (by first | omega | (dsimp only; omega) | (simp; omega)) fun i hi1 hi2 => ?_))
      | (refine goDr 13 [0, 1, 5, 9, 2, 3, 4, 6, 7, 8, 10] [(2, [1000]), (6, [1000]), (10, [6])] rfl (by kernel_rfl) ?_)
      | (refine goDr 22 [0, 1, 5, 9, 2, 3, 4, 6, 7, 8, 10] [(2, [1000]), (6, [1000]), (10, [7])] rfl (by kernel_rfl) ?_)
      | ((refine goP (endNew_ok' _ _ _ _ (by omega)) ?_))
      | ((obtain ⟨n0, hn0, hx0⟩ := k3 5 65530 32760 i (by omega) (by omega); refine goIdx [.i .i64 n0] (by omega) rfl (by exact hx0) ?_))
      | ((obtain ⟨n0, hn0, hx0⟩ := k3 100 65534 0 i (by omega) (by omega); refine goIdx [.i .i64 n0] (by omega) rfl (by exact hx0) ?_))
      | ((refine goE (listen_r _ (theNew_wk _ _ _ _).small) ?_; rintro _ ⟨_, b1, ⟨e2, he2, rfl⟩, rfl⟩))
      | ((refine goE (connect_r _ _ _ _ (theNew_wk _ _ _ _).small) ?_; rintro _ ⟨_, _, ⟨e1, he1, rfl⟩, ⟨q1, hq1, hql1, rfl⟩, rfl⟩))
      | ((refine ⟨by show (0 + (q1.map Seg.c).length) * 96 ≤ 140737488355328; simp; omega, rfl, rfl, ?_⟩))
      | (split <;> rename_i hq <;> (try simp only [Bool.not_eq_eq_eq_not, Bool.not_true, Bool.not_false, decide_eq_true_eq, decide_eq_false_iff_not, inB_t, inB_f, bytes_len, List.length_map, Bool.and_eq_true, Bool.and_eq_false_iff, and_true] at hq) <;> (try (exfalso; first | omega | (simp_all; done))))
      | (refine goW (by first | omega | (simp; omega)) (by first | omega | (simp; omega)) ?_)
      | (refine ret1 (by rfl) (by rfl) (outB ?_); first | rfl | grind [inB])
      | (refine ret1 (by rfl) (by rfl) (outI ?_); first | rfl | omega | grind [inB])
      | (refine ret1 (by rfl) (by rfl) (outB ?_)) | (refine ret1 (by rfl) (by rfl) (outI ?_)))
  all_goals (conv => whnf)
  refine ⟨Tk, fun x => x.ok p0, fun x => ⟨[(0, .one (.ptr 1000 0)), (2, .one (.ptr 2 0)), (3, .one (.ptr 3 0)), (6, .one (.ptr 6 0)), (7, .one (.ptr 7 0)), (8, .one (.lst 576 x.v8 174 x.c8)), (9, .one (.lst 592 x.v9 174 x.c9)), (11, .one (.i .i64 x.t))], [(1000, rd l x.p), (2, (ti tab 34).zero), (3, (ti tab 34).zero), (6, x.e1.c), (7, x.e2.c)], [(576, x.v8), (592, x.v9), (1, 0)], [1000,2,3,6,7], [576,592,1]⟩, fun x => x.t.toNat, ⟨3 + i, p0 + 1 + 1 + 1 + 1 + 1, e1, e2, [], q1, [], q1.map Seg.c, 0, 1⟩, fun x => rfl, ?_, (by refine ⟨?_, ?_, ?_⟩ <;> repeat' (first | exact trivial | refine ⟨rfl, ?_⟩)), ?_⟩
  · refine ⟨?_, ?_, ⟨he1, he2⟩, ⟨by simp, hq1⟩, ⟨rfl, rfl⟩, ?_, ?_⟩ <;> (try dsimp only [List.length]) <;> omega
  rintro ⟨t, p, f1, f2, l8, l9, c8, c9, v8, v9⟩ ⟨ht, hpp, ⟨hf1, hf2⟩, ⟨hl8, hl9⟩, ⟨hc8, hc9⟩, hn8, hn9⟩
  dsimp only at ht hpp hf1 hf2 hl8 hl9 hc8 hc9 hn8 hn9
  subst hc8 hc9
  have k8 : (l8.map Seg.c).length = l8.length := by simp
  have k9 : (l9.map Seg.c).length = l9.length := by simp
  dsimp only
  (conv => whnf); split <;> rename_i h4 <;> simp only [decide_eq_true_eq, decide_eq_false_iff_not] at h4
  case h_2 =>
    (conv => whnf)
    refine ⟨[0, 1, 2, 3, 4, 5, 6, 7], [(0, [6]), (1, [7]), (4, [2]), (5, [3])], (by kernel_rfl), ?_⟩
    (conv => whnf)
    exact retG [] 0 (by rfl) (by rfl) (by rfl) (by rfl) (by rfl) (by rfl) ⟨p, f1, f2, l8, l9, by omega, hf1, hf2, rfl⟩
  (conv => whnf); refine goW (by first | omega | (dsimp only; omega) | (simp; omega)) (by first | omega | (dsimp only; omega) | (simp; omega)) ?_
  (conv => whnf); refine goW (by first | omega | (dsimp only; omega) | (simp; omega)) (by first | omega | (dsimp only; omega) | (simp; omega)) ?_
  (conv => whnf); refine goPick hl (by exact ⟨⟨rfl, rfl⟩, trivial⟩) (by first | omega | (dsimp only; omega) | (simp; omega)) (by first | omega | (dsimp only; omega) | (simp; omega)) fun i hi1 hi2 => ?_
  (conv => whnf); refine goW (by first | omega | (dsimp only; omega) | (simp; omega)) (by first | omega | (dsimp only; omega) | (simp; omega)) ?_
  (conv => whnf); refine goPick hl (by exact ⟨⟨rfl, rfl⟩, trivial⟩) (by first | omega | (dsimp only; omega) | (simp; omega)) (by first | omega | (dsimp only; omega) | (simp; omega)) fun j hj1 hj2 => ?_
  clear hx0 hn0
  (conv => whnf)
  rcases (by omega : j = 0 ∨ j = 1 ∨ j = 2 ∨ j = 3 ∨ j = 4 ∨ j = 5 ∨ j = 6 ∨ j = 7 ∨ j = 8) with rfl | rfl | rfl | rfl | rfl | rfl | rfl | rfl | rfl
  · skip
    repeat' ((conv => whnf); first
        | ((refine goPick hl (by exact ⟨⟨rfl, rfl⟩, trivial⟩) (by first | omega | (dsimp only; omega) | (simp; omega)) (by first | omega | (dsimp only; omega) | (simp; omega)) fun i hi1 hi2 => ?_))
        | ((refine goBytes hl (by exact ⟨⟨rfl, rfl⟩, trivial⟩) (by first | omega | (dsimp only; omega) | (simp; omega)) (by first | omega | (dsimp only; omega) | (simp; omega)) fun p1 d hd1 hd2 hd => ?_))
        | (refine goDr 82 [0, 1, 2, 5, 3, 4, 6, 7, 8, 9, 10, 11, 12] [(0, [6]), (3, [1000]), (4, [1000]), (11, [6])] rfl (by kernel_rfl) ?_)
        | ((refine goE (write_r f1 d _ hf1.small (by omega)) ?_; rintro _ ⟨_, n1, _, ⟨g1, hg1, rfl⟩, ⟨q1, hq1, hql1, rfl⟩, rfl⟩; have kq1 : (q1.map Seg.c).length = q1.length := by simp))
        | ((refine ⟨by show ((l9.map Seg.c).length + (q1.map Seg.c).length) * 96 ≤ 140737488355328; omega, rfl, rfl, ?_⟩))
        | ((refine ⟨⟨t - 1, _, g1, f2, l8, l9 ++ q1, _, _, _, _⟩, ?_, ⟨⟨rfl, rfl, rfl, rfl, rfl, rfl, rfl, rfl, trivial⟩, ⟨rfl, rfl, rfl, rfl, rfl, trivial⟩, ⟨rfl, rfl, rfl, trivial⟩⟩, ?_⟩; (focus (exact ⟨by dsimp only; omega, by dsimp only; omega, by constructor <;> assumption, by constructor <;> first | assumption | exact hl8 | exact sg_app hl9 hq1, by constructor <;> first | rfl | (simp; done), by first | (dsimp only; omega) | (dsimp only; simp; omega), by first | (dsimp only; omega) | (dsimp only; simp; omega)⟩)); (focus (show (t - 1).toNat < t.toNat; omega))))
        | (split <;> rename_i hq <;> (try simp only [Bool.not_eq_eq_eq_not, Bool.not_true, Bool.not_false, decide_eq_true_eq, decide_eq_false_iff_not, inB_t, inB_f, bytes_len, List.length_map, Bool.and_eq_true, Bool.and_eq_false_iff, and_true] at hq) <;> (try (exfalso; first | omega | (simp_all; done))))
        | (refine goW (by first | omega | (simp; omega)) (by first | omega | (simp; omega)) ?_)
        | (refine ret1 (by rfl) (by rfl) (outB ?_); first | rfl | grind [inB])
        | (refine ret1 (by rfl) (by rfl) (outI ?_); first | rfl | omega | grind [inB])
        | (refine ret1 (by rfl) (by rfl) (outB ?_)) | (refine ret1 (by rfl) (by rfl) (outI ?_)))
  · skip
    repeat' ((conv => whnf); first
        | ((refine goPick hl (by exact ⟨⟨rfl, rfl⟩, trivial⟩) (by first | omega | (dsimp only; omega) | (simp; omega)) (by first | omega | (dsimp only; omega) | (simp; omega)) fun i hi1 hi2 => ?_))
        | ((refine goBytes hl (by exact ⟨⟨rfl, rfl⟩, trivial⟩) (by first | omega | (dsimp only; omega) | (simp; omega)) (by first | omega | (dsimp only; omega) | (simp; omega)) fun p1 d hd1 hd2 hd => ?_))
        | (refine goDr 98 [0, 1, 2, 5, 3, 4, 6, 7, 8, 9, 10, 11, 12] [(0, [7]), (3, [1000]), (4, [1000]), (11, [7])] rfl (by kernel_rfl) ?_)
        | ((refine goE (write_r f2 d _ hf2.small (by omega)) ?_; rintro _ ⟨_, n2, _, ⟨g2, hg2, rfl⟩, ⟨q2, hq2, hql2, rfl⟩, rfl⟩; have kq2 : (q2.map Seg.c).length = q2.length := by simp))
        | ((refine ⟨by show ((l8.map Seg.c).length + (q2.map Seg.c).length) * 96 ≤ 140737488355328; omega, rfl, rfl, ?_⟩))
        | ((refine ⟨⟨t - 1, _, f1, g2, l8 ++ q2, l9, _, _, _, _⟩, ?_, ⟨⟨rfl, rfl, rfl, rfl, rfl, rfl, rfl, rfl, trivial⟩, ⟨rfl, rfl, rfl, rfl, rfl, trivial⟩, ⟨rfl, rfl, rfl, trivial⟩⟩, ?_⟩; (focus (exact ⟨by dsimp only; omega, by dsimp only; omega, by constructor <;> assumption, by constructor <;> first | assumption | exact sg_app hl8 hq2 | exact hl9, by constructor <;> first | rfl | (simp; done), by first | (dsimp only; omega) | (dsimp only; simp; omega), by first | (dsimp only; omega) | (dsimp only; simp; omega)⟩)); (focus (show (t - 1).toNat < t.toNat; omega))))
        | (split <;> rename_i hq <;> (try simp only [Bool.not_eq_eq_eq_not, Bool.not_true, Bool.not_false, decide_eq_true_eq, decide_eq_false_iff_not, inB_t, inB_f, bytes_len, List.length_map, Bool.and_eq_true, Bool.and_eq_false_iff, and_true] at hq) <;> (try (exfalso; first | omega | (simp_all; done))))
        | (refine goW (by first | omega | (simp; omega)) (by first | omega | (simp; omega)) ?_)
        | (refine ret1 (by rfl) (by rfl) (outB ?_); first | rfl | grind [inB])
        | (refine ret1 (by rfl) (by rfl) (outI ?_); first | rfl | omega | grind [inB])
        | (refine ret1 (by rfl) (by rfl) (outB ?_)) | (refine ret1 (by rfl) (by rfl) (outI ?_)))
  · skip
    repeat' ((conv => whnf); first
        | ((refine goPick hl (by exact ⟨⟨rfl, rfl⟩, trivial⟩) (by first | omega | (dsimp only; omega) | (simp; omega)) (by first | omega | (dsimp only; omega) | (simp; omega)) fun i hi1 hi2 => ?_))
        | (refine goDr 114 [0, 1, 3, 2, 4, 5, 6, 7, 8, 9, 10] [(0, [7]), (2, [1000]), (9, [7])] rfl (by kernel_rfl) ?_)
        | ((refine goE (read_r f2 _ _ hf2.small) ?_; rintro _ ⟨_, b2, _, ⟨g2, hg2, rfl⟩, ⟨q2, hq2, hql2, rfl⟩, rfl⟩; have kq2 : (q2.map Seg.c).length = q2.length := by simp))
        | ((refine ⟨by show ((l8.map Seg.c).length + (q2.map Seg.c).length) * 96 ≤ 140737488355328; omega, rfl, rfl, ?_⟩))
        | ((refine ⟨⟨t - 1, _, f1, g2, l8 ++ q2, l9, _, _, _, _⟩, ?_, ⟨⟨rfl, rfl, rfl, rfl, rfl, rfl, rfl, rfl, trivial⟩, ⟨rfl, rfl, rfl, rfl, rfl, trivial⟩, ⟨rfl, rfl, rfl, trivial⟩⟩, ?_⟩; (focus (exact ⟨by dsimp only; omega, by dsimp only; omega, by constructor <;> assumption, by constructor <;> first | assumption | exact sg_app hl8 hq2 | exact hl9, by constructor <;> first | rfl | (simp; done), by first | (dsimp only; omega) | (dsimp only; simp; omega), by first | (dsimp only; omega) | (dsimp only; simp; omega)⟩)); (focus (show (t - 1).toNat < t.toNat; omega))))
        | (split <;> rename_i hq <;> (try simp only [Bool.not_eq_eq_eq_not, Bool.not_true, Bool.not_false, decide_eq_true_eq, decide_eq_false_iff_not, inB_t, inB_f, bytes_len, List.length_map, Bool.and_eq_true, Bool.and_eq_false_iff, and_true] at hq) <;> (try (exfalso; first | omega | (simp_all; done))))
        | (refine goW (by first | omega | (simp; omega)) (by first | omega | (simp; omega)) ?_)
        | (refine ret1 (by rfl) (by rfl) (outB ?_); first | rfl | grind [inB])
        | (refine ret1 (by rfl) (by rfl) (outI ?_); first | rfl | omega | grind [inB])
        | (refine ret1 (by rfl) (by rfl) (outB ?_)) | (refine ret1 (by rfl) (by rfl) (outI ?_)))
  · skip
    repeat' ((conv => whnf); first
        | ((refine goE (tick_r f1 _ hf1.small) ?_; rintro _ ⟨_, _, ⟨g1, hg1, rfl⟩, ⟨q1, hq1, hql1, rfl⟩, rfl⟩; have kq1 : (q1.map Seg.c).length = q1.length := by simp))
        | ((refine goE (tick_r f2 _ hf2.small) ?_; rintro _ ⟨_, _, ⟨g2, hg2, rfl⟩, ⟨q2, hq2, hql2, rfl⟩, rfl⟩; have kq2 : (q2.map Seg.c).length = q2.length := by simp))
        | ((refine ⟨by show ((l9.map Seg.c).length + (q1.map Seg.c).length) * 96 ≤ 140737488355328; omega, rfl, rfl, ?_⟩))
        | ((refine ⟨by show ((l8.map Seg.c).length + (q2.map Seg.c).length) * 96 ≤ 140737488355328; omega, rfl, rfl, ?_⟩))
        | ((refine ⟨⟨t - 1, _, g1, g2, l8 ++ q2, l9 ++ q1, _, _, _, _⟩, ?_, ⟨⟨rfl, rfl, rfl, rfl, rfl, rfl, rfl, rfl, trivial⟩, ⟨rfl, rfl, rfl, rfl, rfl, trivial⟩, ⟨rfl, rfl, rfl, trivial⟩⟩, ?_⟩; (focus (exact ⟨by dsimp only; omega, by dsimp only; omega, by constructor <;> assumption, by constructor <;> first | assumption | exact sg_app hl8 hq2 | exact sg_app hl9 hq1, by constructor <;> first | rfl | (simp; done), by first | (dsimp only; omega) | (dsimp only; simp; omega), by first | (dsimp only; omega) | (dsimp only; simp; omega)⟩)); (focus (show (t - 1).toNat < t.toNat; omega))))
        | (split <;> rename_i hq <;> (try simp only [Bool.not_eq_eq_eq_not, Bool.not_true, Bool.not_false, decide_eq_true_eq, decide_eq_false_iff_not, inB_t, inB_f, bytes_len, List.length_map, Bool.and_eq_true, Bool.and_eq_false_iff, and_true] at hq) <;> (try (exfalso; first | omega | (simp_all; done))))
        | (refine goW (by first | omega | (simp; omega)) (by first | omega | (simp; omega)) ?_)
        | (refine ret1 (by rfl) (by rfl) (outB ?_); first | rfl | grind [inB])
        | (refine ret1 (by rfl) (by rfl) (outI ?_); first | rfl | omega | grind [inB])
        | (refine ret1 (by rfl) (by rfl) (outB ?_)) | (refine ret1 (by rfl) (by rfl) (outI ?_)))
  · skip
    repeat' ((conv => whnf); first
        | ((refine goPick hl (by exact ⟨⟨rfl, rfl⟩, trivial⟩) (by first | omega | (dsimp only; omega) | (simp; omega)) (by first | omega | (dsimp only; omega) | (simp; omega)) fun i hi1 hi2 => ?_))
        | ((refine goE (close_r f1 _ hf1.small) ?_; rintro _ ⟨_, _, ⟨g1, hg1, rfl⟩, ⟨q1, hq1, hql1, rfl⟩, rfl⟩; have kq1 : (q1.map Seg.c).length = q1.length := by simp))
        | ((refine ⟨by show ((l9.map Seg.c).length + (q1.map Seg.c).length) * 96 ≤ 140737488355328; omega, rfl, rfl, ?_⟩))
        | ((refine ⟨⟨t - 1, _, g1, f2, l8, l9 ++ q1, _, _, _, _⟩, ?_, ⟨⟨rfl, rfl, rfl, rfl, rfl, rfl, rfl, rfl, trivial⟩, ⟨rfl, rfl, rfl, rfl, rfl, trivial⟩, ⟨rfl, rfl, rfl, trivial⟩⟩, ?_⟩; (focus (exact ⟨by dsimp only; omega, by dsimp only; omega, by constructor <;> assumption, by constructor <;> first | assumption | exact hl8 | exact sg_app hl9 hq1, by constructor <;> first | rfl | (simp; done), by first | (dsimp only; omega) | (dsimp only; simp; omega), by first | (dsimp only; omega) | (dsimp only; simp; omega)⟩)); (focus (show (t - 1).toNat < t.toNat; omega))))
        | ((refine ⟨⟨t - 1, _, f1, f2, l8, l9, _, _, _, _⟩, ?_, ⟨⟨rfl, rfl, rfl, rfl, rfl, rfl, rfl, rfl, trivial⟩, ⟨rfl, rfl, rfl, rfl, rfl, trivial⟩, ⟨rfl, rfl, rfl, trivial⟩⟩, ?_⟩; (focus (exact ⟨by dsimp only; omega, by dsimp only; omega, by constructor <;> assumption, by constructor <;> first | assumption | exact hl8 | exact hl9, by constructor <;> first | rfl | (simp; done), by first | (dsimp only; omega) | (dsimp only; simp; omega), by first | (dsimp only; omega) | (dsimp only; simp; omega)⟩)); (focus (show (t - 1).toNat < t.toNat; omega))))
        | (split <;> rename_i hq <;> (try simp only [Bool.not_eq_eq_eq_not, Bool.not_true, Bool.not_false, decide_eq_true_eq, decide_eq_false_iff_not, inB_t, inB_f, bytes_len, List.length_map, Bool.and_eq_true, Bool.and_eq_false_iff, and_true] at hq) <;> (try (exfalso; first | omega | (simp_all; done))))
        | (refine goW (by first | omega | (simp; omega)) (by first | omega | (simp; omega)) ?_)
        | (refine ret1 (by rfl) (by rfl) (outB ?_); first | rfl | grind [inB])
        | (refine ret1 (by rfl) (by rfl) (outI ?_); first | rfl | omega | grind [inB])
        | (refine ret1 (by rfl) (by rfl) (outB ?_)) | (refine ret1 (by rfl) (by rfl) (outI ?_)))
  · skip
    repeat' ((conv => whnf); first
        | (refine goDr 166 [0, 1, 2, 3, 4, 5, 6, 7, 8, 9, 10] [(0, [6]), (9, [6])] rfl (by kernel_rfl) ?_)
        | ((refine goE (hear_r f1 _ sg _ hf1.small hsg) ?_; rintro _ ⟨_, _, ⟨g1, hg1, rfl⟩, ⟨q1, hq1, hql1, rfl⟩, rfl⟩; have kq1 : (q1.map Seg.c).length = q1.length := by simp))
        | ((obtain ⟨sg, hsg, hgx⟩ := sg_get hl8 (by omega); refine goIdx sg.c (by omega) rfl (by exact hgx) ?_))
        | ((refine ⟨by show ((l9.map Seg.c).length + (q1.map Seg.c).length) * 96 ≤ 140737488355328; omega, rfl, rfl, ?_⟩))
        | ((refine ⟨by decide, by omega, ?_⟩))
        | ((refine ⟨⟨t - 1, _, g1, f2, l8.drop 1, l9 ++ q1, _, _, _, _⟩, ?_, ⟨⟨rfl, rfl, rfl, rfl, rfl, rfl, rfl, rfl, trivial⟩, ⟨rfl, rfl, rfl, rfl, rfl, trivial⟩, ⟨rfl, rfl, rfl, trivial⟩⟩, ?_⟩; (focus (exact ⟨by dsimp only; omega, by dsimp only; omega, by constructor <;> assumption, by constructor <;> first | assumption | exact sg_drop hl8 | exact sg_app hl9 hq1, by constructor <;> first | rfl | (simp; done), by first | (dsimp only; omega) | (dsimp only; simp; omega), by first | (dsimp only; omega) | (dsimp only; simp; omega)⟩)); (focus (show (t - 1).toNat < t.toNat; omega))))
        | ((refine ⟨⟨t - 1, _, f1, f2, l8, l9, _, _, _, _⟩, ?_, ⟨⟨rfl, rfl, rfl, rfl, rfl, rfl, rfl, rfl, trivial⟩, ⟨rfl, rfl, rfl, rfl, rfl, trivial⟩, ⟨rfl, rfl, rfl, trivial⟩⟩, ?_⟩; (focus (exact ⟨by dsimp only; omega, by dsimp only; omega, by constructor <;> assumption, by constructor <;> first | assumption | exact hl8 | exact hl9, by constructor <;> first | rfl | (simp; done), by first | (dsimp only; omega) | (dsimp only; simp; omega), by first | (dsimp only; omega) | (dsimp only; simp; omega)⟩)); (focus (show (t - 1).toNat < t.toNat; omega))))
        | (split <;> rename_i hq <;> (try simp only [Bool.not_eq_eq_eq_not, Bool.not_true, Bool.not_false, decide_eq_true_eq, decide_eq_false_iff_not, inB_t, inB_f, bytes_len, List.length_map, Bool.and_eq_true, Bool.and_eq_false_iff, and_true] at hq) <;> (try (exfalso; first | omega | (simp_all; done))))
        | (refine goW (by first | omega | (simp; omega)) (by first | omega | (simp; omega)) ?_)
        | (refine ret1 (by rfl) (by rfl) (outB ?_); first | rfl | grind [inB])
        | (refine ret1 (by rfl) (by rfl) (outI ?_); first | rfl | omega | grind [inB])
        | (refine ret1 (by rfl) (by rfl) (outB ?_)) | (refine ret1 (by rfl) (by rfl) (outI ?_)))
  · skip
    repeat' ((conv => whnf); first
        | (refine goDr 166 [0, 1, 2, 3, 4, 5, 6, 7, 8, 9, 10] [(0, [6]), (9, [6])] rfl (by kernel_rfl) ?_)
        | ((refine goE (hear_r f1 _ sg _ hf1.small hsg) ?_; rintro _ ⟨_, _, ⟨g1, hg1, rfl⟩, ⟨q1, hq1, hql1, rfl⟩, rfl⟩; have kq1 : (q1.map Seg.c).length = q1.length := by simp))
        | ((obtain ⟨sg, hsg, hgx⟩ := sg_get hl8 (by omega); refine goIdx sg.c (by omega) rfl (by exact hgx) ?_))
        | ((refine ⟨by show ((l9.map Seg.c).length + (q1.map Seg.c).length) * 96 ≤ 140737488355328; omega, rfl, rfl, ?_⟩))
        | ((refine ⟨by decide, by omega, ?_⟩))
        | ((refine ⟨⟨t - 1, _, g1, f2, l8.drop 1, l9 ++ q1, _, _, _, _⟩, ?_, ⟨⟨rfl, rfl, rfl, rfl, rfl, rfl, rfl, rfl, trivial⟩, ⟨rfl, rfl, rfl, rfl, rfl, trivial⟩, ⟨rfl, rfl, rfl, trivial⟩⟩, ?_⟩; (focus (exact ⟨by dsimp only; omega, by dsimp only; omega, by constructor <;> assumption, by constructor <;> first | assumption | exact sg_drop hl8 | exact sg_app hl9 hq1, by constructor <;> first | rfl | (simp; done), by first | (dsimp only; omega) | (dsimp only; simp; omega), by first | (dsimp only; omega) | (dsimp only; simp; omega)⟩)); (focus (show (t - 1).toNat < t.toNat; omega))))
        | ((refine ⟨⟨t - 1, _, f1, f2, l8, l9, _, _, _, _⟩, ?_, ⟨⟨rfl, rfl, rfl, rfl, rfl, rfl, rfl, rfl, trivial⟩, ⟨rfl, rfl, rfl, rfl, rfl, trivial⟩, ⟨rfl, rfl, rfl, trivial⟩⟩, ?_⟩; (focus (exact ⟨by dsimp only; omega, by dsimp only; omega, by constructor <;> assumption, by constructor <;> first | assumption | exact hl8 | exact hl9, by constructor <;> first | rfl | (simp; done), by first | (dsimp only; omega) | (dsimp only; simp; omega), by first | (dsimp only; omega) | (dsimp only; simp; omega)⟩)); (focus (show (t - 1).toNat < t.toNat; omega))))
        | (split <;> rename_i hq <;> (try simp only [Bool.not_eq_eq_eq_not, Bool.not_true, Bool.not_false, decide_eq_true_eq, decide_eq_false_iff_not, inB_t, inB_f, bytes_len, List.length_map, Bool.and_eq_true, Bool.and_eq_false_iff, and_true] at hq) <;> (try (exfalso; first | omega | (simp_all; done))))
        | (refine goW (by first | omega | (simp; omega)) (by first | omega | (simp; omega)) ?_)
        | (refine ret1 (by rfl) (by rfl) (outB ?_); first | rfl | grind [inB])
        | (refine ret1 (by rfl) (by rfl) (outI ?_); first | rfl | omega | grind [inB])
        | (refine ret1 (by rfl) (by rfl) (outB ?_)) | (refine ret1 (by rfl) (by rfl) (outI ?_)))
  · skip
    repeat' ((conv => whnf); first
        | (refine goDr 66 [0, 1, 2, 3, 4, 5, 6, 7, 8, 9, 10] [(0, [7]), (9, [7])] rfl (by kernel_rfl) ?_)
        | ((refine goE (hear_r f2 _ sg _ hf2.small hsg) ?_; rintro _ ⟨_, _, ⟨g2, hg2, rfl⟩, ⟨q2, hq2, hql2, rfl⟩, rfl⟩; have kq2 : (q2.map Seg.c).length = q2.length := by simp))
        | ((obtain ⟨sg, hsg, hgx⟩ := sg_get hl9 (by omega); refine goIdx sg.c (by omega) rfl (by exact hgx) ?_))
        | ((refine ⟨by show ((l8.map Seg.c).length + (q2.map Seg.c).length) * 96 ≤ 140737488355328; omega, rfl, rfl, ?_⟩))
        | ((refine ⟨by decide, by omega, ?_⟩))
        | ((refine ⟨⟨t - 1, _, f1, g2, l8 ++ q2, l9.drop 1, _, _, _, _⟩, ?_, ⟨⟨rfl, rfl, rfl, rfl, rfl, rfl, rfl, rfl, trivial⟩, ⟨rfl, rfl, rfl, rfl, rfl, trivial⟩, ⟨rfl, rfl, rfl, trivial⟩⟩, ?_⟩; (focus (exact ⟨by dsimp only; omega, by dsimp only; omega, by constructor <;> assumption, by constructor <;> first | assumption | exact sg_app hl8 hq2 | exact sg_drop hl9, by constructor <;> first | rfl | (simp; done), by first | (dsimp only; omega) | (dsimp only; simp; omega), by first | (dsimp only; omega) | (dsimp only; simp; omega)⟩)); (focus (show (t - 1).toNat < t.toNat; omega))))
        | ((refine ⟨⟨t - 1, _, f1, f2, l8, l9, _, _, _, _⟩, ?_, ⟨⟨rfl, rfl, rfl, rfl, rfl, rfl, rfl, rfl, trivial⟩, ⟨rfl, rfl, rfl, rfl, rfl, trivial⟩, ⟨rfl, rfl, rfl, trivial⟩⟩, ?_⟩; (focus (exact ⟨by dsimp only; omega, by dsimp only; omega, by constructor <;> assumption, by constructor <;> first | assumption | exact hl8 | exact hl9, by constructor <;> first | rfl | (simp; done), by first | (dsimp only; omega) | (dsimp only; simp; omega), by first | (dsimp only; omega) | (dsimp only; simp; omega)⟩)); (focus (show (t - 1).toNat < t.toNat; omega))))
        | (split <;> rename_i hq <;> (try simp only [Bool.not_eq_eq_eq_not, Bool.not_true, Bool.not_false, decide_eq_true_eq, decide_eq_false_iff_not, inB_t, inB_f, bytes_len, List.length_map, Bool.and_eq_true, Bool.and_eq_false_iff, and_true] at hq) <;> (try (exfalso; first | omega | (simp_all; done))))
        | (refine goW (by first | omega | (simp; omega)) (by first | omega | (simp; omega)) ?_)
        | (refine ret1 (by rfl) (by rfl) (outB ?_); first | rfl | grind [inB])
        | (refine ret1 (by rfl) (by rfl) (outI ?_); first | rfl | omega | grind [inB])
        | (refine ret1 (by rfl) (by rfl) (outB ?_)) | (refine ret1 (by rfl) (by rfl) (outI ?_)))
  · skip
    repeat' ((conv => whnf); first
        | (refine goDr 66 [0, 1, 2, 3, 4, 5, 6, 7, 8, 9, 10] [(0, [7]), (9, [7])] rfl (by kernel_rfl) ?_)
        | ((refine goE (hear_r f2 _ sg _ hf2.small hsg) ?_; rintro _ ⟨_, _, ⟨g2, hg2, rfl⟩, ⟨q2, hq2, hql2, rfl⟩, rfl⟩; have kq2 : (q2.map Seg.c).length = q2.length := by simp))
        | ((obtain ⟨sg, hsg, hgx⟩ := sg_get hl9 (by omega); refine goIdx sg.c (by omega) rfl (by exact hgx) ?_))
        | ((refine ⟨by show ((l8.map Seg.c).length + (q2.map Seg.c).length) * 96 ≤ 140737488355328; omega, rfl, rfl, ?_⟩))
        | ((refine ⟨by decide, by omega, ?_⟩))
        | ((refine ⟨⟨t - 1, _, f1, g2, l8 ++ q2, l9.drop 1, _, _, _, _⟩, ?_, ⟨⟨rfl, rfl, rfl, rfl, rfl, rfl, rfl, rfl, trivial⟩, ⟨rfl, rfl, rfl, rfl, rfl, trivial⟩, ⟨rfl, rfl, rfl, trivial⟩⟩, ?_⟩; (focus (exact ⟨by dsimp only; omega, by dsimp only; omega, by constructor <;> assumption, by constructor <;> first | assumption | exact sg_app hl8 hq2 | exact sg_drop hl9, by constructor <;> first | rfl | (simp; done), by first | (dsimp only; omega) | (dsimp only; simp; omega), by first | (dsimp only; omega) | (dsimp only; simp; omega)⟩)); (focus (show (t - 1).toNat < t.toNat; omega))))
        | ((refine ⟨⟨t - 1, _, f1, f2, l8, l9, _, _, _, _⟩, ?_, ⟨⟨rfl, rfl, rfl, rfl, rfl, rfl, rfl, rfl, trivial⟩, ⟨rfl, rfl, rfl, rfl, rfl, trivial⟩, ⟨rfl, rfl, rfl, trivial⟩⟩, ?_⟩; (focus (exact ⟨by dsimp only; omega, by dsimp only; omega, by constructor <;> assumption, by constructor <;> first | assumption | exact hl8 | exact hl9, by constructor <;> first | rfl | (simp; done), by first | (dsimp only; omega) | (dsimp only; simp; omega), by first | (dsimp only; omega) | (dsimp only; simp; omega)⟩)); (focus (show (t - 1).toNat < t.toNat; omega))))
        | (split <;> rename_i hq <;> (try simp only [Bool.not_eq_eq_eq_not, Bool.not_true, Bool.not_false, decide_eq_true_eq, decide_eq_false_iff_not, inB_t, inB_f, bytes_len, List.length_map, Bool.and_eq_true, Bool.and_eq_false_iff, and_true] at hq) <;> (try (exfalso; first | omega | (simp_all; done))))
        | (refine goW (by first | omega | (simp; omega)) (by first | omega | (simp; omega)) ?_)
        | (refine ret1 (by rfl) (by rfl) (outB ?_); first | rfl | grind [inB])
        | (refine ret1 (by rfl) (by rfl) (outI ?_); first | rfl | omega | grind [inB])
        | (refine ret1 (by rfl) (by rfl) (outB ?_)) | (refine ret1 (by rfl) (by rfl) (outI ?_)))
end Go.Proofs.Ytpeejmolbmhjjaa.Sx
