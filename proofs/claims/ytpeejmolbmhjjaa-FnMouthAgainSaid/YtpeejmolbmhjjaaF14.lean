/- What WatchOk, WatchLevel and WatchEdge come to; there is no condition beyond those each statement names. -/
import Derived.Test.YtpeejmolbmhjjaaF13
namespace Go.Proofs.Ytpeejmolbmhjjaa.Sx
set_option linter.unusedSimpArgs false
set_option linter.unusedVariables false
open Go
set_option maxRecDepth 100000
set_option maxHeartbeats 0
def hasV (a w : Int) : Bool := decide ((a.tdiv w).tmod 2 = 1)
def bth (a b w : Int) : Int := if hasV a w = true ∧ hasV b w = true then w else 0
def bothK (a b : Int) : Nat → Int
  | 0 => 0
  | 1 => bth a b 1
  | 2 => bth a b 1 + bth a b 2
  | _ => bth a b 1 + bth a b 2 + bth a b 4
theorem has_ok (a w : Int) (ha : 0 ≤ a ∧ a < 1000000000) (hw : 1 ≤ w ∧ w ≤ 4) : Pure 135 [int a, int w] (.pv (bool (hasV a w))) := by
  refine fn_of_vc tab_ok mixed Try.call135 Try.func135 rfl [] _ _ (by kernel_rfl) rfl rfl rfl ?_
  (conv => whnf); refine ⟨by omega, _, w64 _ (by have := Int.tdiv_nonneg (b := w) ha.1 (by omega); omega) (by rw [Int.tdiv_eq_ediv_of_nonneg ha.1]; have := Int.ediv_le_self w ha.1; omega), ?_⟩
  (conv => whnf); refine ⟨by decide, _, rfl, ?_⟩
  (conv => whnf); exact ret1 (by rfl) (by rfl) (by rfl)
theorem bth_r (a b w : Int) (hw : 0 ≤ w) : 0 ≤ bth a b w ∧ bth a b w ≤ w := by unfold bth; split <;> omega
theorem bothK_r (a b : Int) : ∀ k, 0 ≤ bothK a b k ∧ bothK a b k ≤ 7
  | 0 => by simp [bothK]
  | 1 => by have := bth_r a b 1 (by omega); simp only [bothK]; omega
  | 2 => by have := bth_r a b 1 (by omega); have := bth_r a b 2 (by omega); simp only [bothK]; omega
  | k + 3 => by have := bth_r a b 1 (by omega); have := bth_r a b 2 (by omega); have := bth_r a b 4 (by omega); simp only [bothK]; omega
theorem both_ok (a b : Int) (ha : 0 ≤ a ∧ a < 1000000000) (hb : 0 ≤ b ∧ b < 1000000000) : Pure 82 [int a, int b] (.pv (int (bothK a b 3))) := by
  refine fn_of_vc tab_ok mixed Try.call82 Try.func82 rfl [] _ _ (by kernel_rfl) rfl rfl rfl ?_
  (conv => whnf)
  refine ⟨Nat × Int, fun x => x.1 ≤ 3 ∧ x.2 = bothK a b x.1, fun x => ⟨[(0, .one (.i .i64 a)), (1, .one (.i .i64 b)), (5, .one (.i .i64 x.2)), (8, .one (.lst 0 0 3 [[.i .i64 1], [.i .i64 2], [.i .i64 4]])), (9, .one (.i .i64 3)), (10, .one (.i .i64 x.1))], [], [(1, 0)], [], [1]⟩, fun x => 3 - x.1, (0, 0), fun x => rfl, ?_, (by refine ⟨?_, ?_, ?_⟩ <;> repeat' (first | exact trivial | refine ⟨rfl, ?_⟩)), ?_⟩
  · exact ⟨by omega, rfl⟩
  rintro ⟨k, s⟩ ⟨hk, hs⟩
  dsimp only at hk hs
  have hk3 : k = 0 ∨ k = 1 ∨ k = 2 ∨ k = 3 := by omega
  have hr := bothK_r a b k
  rw [← hs] at hr
  rcases hk3 with rfl | rfl | rfl | rfl
  all_goals
    repeat' ((conv => whnf); first
        | (refine goP (has_ok _ _ (by omega) (by omega)) ?_)
        | (refine goIdx _ (by omega) rfl rfl ?_)
        | (split <;> rename_i hq <;> (try simp only [Bool.not_eq_eq_eq_not, Bool.not_true, Bool.not_false, decide_eq_true_eq, decide_eq_false_iff_not, inB_t, inB_f, bytes_len, List.length_map, Bool.and_eq_true, Bool.and_eq_false_iff, and_true] at hq) <;> (try (exfalso; first | omega | (simp_all; done))))
        | (refine goW (by first | omega | (simp; omega)) (by first | omega | (simp; omega)) ?_)
        | (refine ret1 (by rfl) (by rfl) (outB ?_); first | rfl | grind [bothK])
        | (refine ret1 (by rfl) (by rfl) (outI ?_); first | rfl | omega | grind [bothK])
        | (refine ret1 (by rfl) (by rfl) (outB ?_)) | (refine ret1 (by rfl) (by rfl) (outI ?_)))
  all_goals (conv => whnf)
  all_goals first
    | (refine ⟨(1, _), ?_, (by refine ⟨?_, ?_, ?_⟩ <;> repeat' (first | exact trivial | refine ⟨rfl, ?_⟩)), ?_⟩
       · exact ⟨by omega, by simp [hs, bothK, bth, *]⟩
       · exact (by decide : 3 - 1 < 3 - 0))
    | (refine ⟨(2, _), ?_, (by refine ⟨?_, ?_, ?_⟩ <;> repeat' (first | exact trivial | refine ⟨rfl, ?_⟩)), ?_⟩
       · exact ⟨by omega, by simp [hs, bothK, bth, *]⟩
       · exact (by decide : 3 - 2 < 3 - 1))
    | (refine ⟨(3, _), ?_, (by refine ⟨?_, ?_, ?_⟩ <;> repeat' (first | exact trivial | refine ⟨rfl, ?_⟩)), ?_⟩
       · exact ⟨by omega, by simp [hs, bothK, bth, *]⟩
       · exact (by decide : 3 - 3 < 3 - 2))
theorem and_fin : ∀ x y : Fin 8, IntKind.i64.wrap ((BitVec.ofInt IntKind.i64.bits (x.val : Int) &&& BitVec.ofInt IntKind.i64.bits (y.val : Int)).toNat : Nat) = bothK x.val y.val 3 := by decide +kernel
theorem andNot_fin : ∀ x y : Fin 8, IntKind.i64.wrap ((BitVec.ofInt IntKind.i64.bits (x.val : Int) &&& ~~~ BitVec.ofInt IntKind.i64.bits (y.val : Int)).toNat : Nat) = x.val - bothK x.val y.val 3 := by decide +kernel
theorem goAnd {a b : Int} {K : Int → Prop} (ha : 0 ≤ a ∧ a ≤ 7) (hb : 0 ≤ b ∧ b ≤ 7) (hk : K (bothK a b 3)) : ∃ r, IntKind.i64.wrap ((BitVec.ofInt IntKind.i64.bits a &&& BitVec.ofInt IntKind.i64.bits b).toNat : Nat) = r ∧ K r := by
  obtain ⟨x, rfl⟩ := Int.eq_ofNat_of_zero_le ha.1
  obtain ⟨y, rfl⟩ := Int.eq_ofNat_of_zero_le hb.1
  exact ⟨_, and_fin ⟨x, by omega⟩ ⟨y, by omega⟩, hk⟩
theorem goAndNot {a b : Int} {K : Int → Prop} (ha : 0 ≤ a ∧ a ≤ 7) (hb : 0 ≤ b ∧ b ≤ 7) (hk : K (a - bothK a b 3)) : ∃ r, IntKind.i64.wrap ((BitVec.ofInt IntKind.i64.bits a &&& ~~~ BitVec.ofInt IntKind.i64.bits b).toNat : Nat) = r ∧ K r := by
  obtain ⟨x, rfl⟩ := Int.eq_ofNat_of_zero_le ha.1
  obtain ⟨y, rfl⟩ := Int.eq_ofNat_of_zero_le hb.1
  exact ⟨_, andNot_fin ⟨x, by omega⟩ ⟨y, by omega⟩, hk⟩
theorem bothK_comm (a b : Int) (k : Nat) : bothK a b k = bothK b a k := by
  have h : ∀ w, bth a b w = bth b a w := fun w => by unfold bth; simp only [and_comm]
  match k with
  | 0 => rfl
  | 1 => exact h 1
  | 2 => simp only [bothK, h]
  | k + 3 => simp only [bothK, h]
structure Watch where
  asks : Int
  told : Int
def Watch.c (w : Watch) : List AV := [.i .i64 w.asks, .i .i64 w.told]
abbrev Watch.v (w : Watch) : PV := (true, w.c)
def Watch.okP (w : Watch) : Prop := (0 ≤ w.asks ∧ w.asks ≤ 7) ∧ (0 ≤ w.told ∧ w.told ≤ 7) ∧ bothK w.asks w.told 3 = w.told
instance (w : Watch) : Decidable w.okP := by unfold Watch.okP; infer_instance
theorem watchOk_ok (w : Watch) : Pure 21 [w.v] (.pv (bool (decide w.okP))) := by
  have hc := bothK_comm w.asks w.told 3
  refine fn_of_vc tab_ok mixed Try.call21 Try.func21 rfl [] _ _ (by kernel_rfl) rfl rfl rfl ?_
  repeat' ((conv => whnf); first
      | (refine goP (in_ok _ _ _) ?_)
      | (refine goAndNot (by omega) (by omega) ?_)
      | (split <;> rename_i hq <;> (try simp only [Bool.not_eq_eq_eq_not, Bool.not_true, Bool.not_false, decide_eq_true_eq, decide_eq_false_iff_not, inB_t, inB_f, bytes_len, List.length_map, Bool.and_eq_true, Bool.and_eq_false_iff, and_true] at hq) <;> (try (exfalso; first | omega | (simp_all; done))))
      | (refine goW (by first | omega | (simp; omega)) (by first | omega | (simp; omega)) ?_)
      | (refine ret1 (by rfl) (by rfl) (outB ?_); first | rfl | grind [Watch.okP])
      | (refine ret1 (by rfl) (by rfl) (outI ?_); first | rfl | omega | grind [Watch.okP])
      | (refine ret1 (by rfl) (by rfl) (outB ?_)) | (refine ret1 (by rfl) (by rfl) (outI ?_)))
theorem watchOk_ok' (w : Watch) : Pure 81 [w.v] (.pv (bool (decide w.okP))) := by
  refine fn_of_vc tab_ok mixed Try.call81 Try.func81 rfl [] _ _ (by kernel_rfl) rfl rfl rfl ?_
  (conv => whnf)
  refine ⟨[0, 1, 2, 3, 4, 5, 6, 7, 8, 9, 10, 11, 12, 14, 15, 13, 16, 17, 18], [(1, [1]), (5, [1]), (10, [1]), (12, [1]), (15, [1])], (by kernel_rfl), ?_⟩
  (conv => whnf)
  repeat' ((conv => whnf); first
      | (refine goP (l1In_ok _ _ _) ?_)
      | (refine goP (both_ok _ _ (by omega) (by omega)) ?_)
      | (split <;> rename_i hq <;> (try simp only [Bool.not_eq_eq_eq_not, Bool.not_true, Bool.not_false, decide_eq_true_eq, decide_eq_false_iff_not, inB_t, inB_f, bytes_len, List.length_map, Bool.and_eq_true, Bool.and_eq_false_iff, and_true] at hq) <;> (try (exfalso; first | omega | (simp_all; done))))
      | (refine goW (by first | omega | (simp; omega)) (by first | omega | (simp; omega)) ?_)
      | (refine ret1 (by rfl) (by rfl) (outB ?_); first | rfl | grind [Watch.okP])
      | (refine ret1 (by rfl) (by rfl) (outI ?_); first | rfl | omega | grind [Watch.okP])
      | (refine ret1 (by rfl) (by rfl) (outB ?_)) | (refine ret1 (by rfl) (by rfl) (outI ?_)))
theorem ready_r (e : End) : 0 ≤ e.ready ∧ e.ready ≤ 7 := by unfold End.ready; split <;> (repeat' split) <;> omega
/-- What a watch's level comes to. -/
def Watch.level (w : Watch) (e : End) : Int := if w.okP then bothK w.asks e.ready 3 else 0
theorem watchLevel_ok (w : Watch) (e : End) (hs : e.small) : Pure 19 [w.v, e.v] (.pv (int (w.level e))) := by
  have hr := ready_r e
  refine fn_of_vc tab_ok mixed Try.call19 Try.func19 rfl [] _ _ (by kernel_rfl) rfl rfl rfl ?_
  repeat' ((conv => whnf); first
      | (refine goP (watchOk_ok w) ?_)
      | (split <;> rename_i hq <;> (try simp only [Bool.not_eq_eq_eq_not, Bool.not_true, Bool.not_false, decide_eq_true_eq, decide_eq_false_iff_not, inB_t, inB_f, bytes_len, List.length_map, Bool.and_eq_true, Bool.and_eq_false_iff, and_true] at hq) <;> (try (exfalso; first | omega | (simp_all; done))))
      | (refine goW (by first | omega | (simp; omega)) (by first | omega | (simp; omega)) ?_)
      | (refine ret1 (by rfl) (by rfl) (outB ?_); first | rfl | grind [Watch.level])
      | (refine ret1 (by rfl) (by rfl) (outI ?_); first | rfl | omega | grind [Watch.level])
      | (refine ret1 (by rfl) (by rfl) (outB ?_)) | (refine ret1 (by rfl) (by rfl) (outI ?_)))
  all_goals (conv => whnf)
  have hq' : w.okP := hq
  have hw := hq'.1
  refine ⟨[0, 1, 2, 3, 4, 5], [(1, [2]), (2, [3])], (by kernel_rfl), ?_⟩
  (conv => whnf)
  repeat' ((conv => whnf); first
      | (refine goP (ready_ok e hs) ?_)
      | (refine goAnd (by omega) (by omega) ?_)
      | (split <;> rename_i hq <;> (try simp only [Bool.not_eq_eq_eq_not, Bool.not_true, Bool.not_false, decide_eq_true_eq, decide_eq_false_iff_not, inB_t, inB_f, bytes_len, List.length_map, Bool.and_eq_true, Bool.and_eq_false_iff, and_true] at hq) <;> (try (exfalso; first | omega | (simp_all; done))))
      | (refine goW (by first | omega | (simp; omega)) (by first | omega | (simp; omega)) ?_)
      | (refine ret1 (by rfl) (by rfl) (outB ?_); first | rfl | grind [Watch.level])
      | (refine ret1 (by rfl) (by rfl) (outI ?_); first | rfl | omega | grind [Watch.level])
      | (refine ret1 (by rfl) (by rfl) (outB ?_)) | (refine ret1 (by rfl) (by rfl) (outI ?_)))
theorem watchLevel_ok' (w : Watch) (e : End) (hs : e.small) : Pure 20 [w.v, e.v] (.pv (int (w.level e))) := by
  have hr := ready_r e
  refine fn_of_vc tab_ok mixed Try.call20 Try.func20 rfl [] _ _ (by kernel_rfl) rfl rfl rfl ?_
  repeat' ((conv => whnf); first
      | (refine goP (watchOk_ok' w) ?_)
      | (split <;> rename_i hq <;> (try simp only [Bool.not_eq_eq_eq_not, Bool.not_true, Bool.not_false, decide_eq_true_eq, decide_eq_false_iff_not, inB_t, inB_f, bytes_len, List.length_map, Bool.and_eq_true, Bool.and_eq_false_iff, and_true] at hq) <;> (try (exfalso; first | omega | (simp_all; done))))
      | (refine goW (by first | omega | (simp; omega)) (by first | omega | (simp; omega)) ?_)
      | (refine ret1 (by rfl) (by rfl) (outB ?_); first | rfl | grind [Watch.level])
      | (refine ret1 (by rfl) (by rfl) (outI ?_); first | rfl | omega | grind [Watch.level])
      | (refine ret1 (by rfl) (by rfl) (outB ?_)) | (refine ret1 (by rfl) (by rfl) (outI ?_)))
  all_goals (conv => whnf)
  have hq' : w.okP := hq
  have hw := hq'.1
  refine ⟨[0, 1, 2, 3, 4, 5], [(1, [2]), (2, [3])], (by kernel_rfl), ?_⟩
  (conv => whnf)
  repeat' ((conv => whnf); first
      | (refine goP (ready_ok' e hs) ?_)
      | (refine goP (both_ok _ _ (by omega) (by omega)) ?_)
      | (split <;> rename_i hq <;> (try simp only [Bool.not_eq_eq_eq_not, Bool.not_true, Bool.not_false, decide_eq_true_eq, decide_eq_false_iff_not, inB_t, inB_f, bytes_len, List.length_map, Bool.and_eq_true, Bool.and_eq_false_iff, and_true] at hq) <;> (try (exfalso; first | omega | (simp_all; done))))
      | (refine goW (by first | omega | (simp; omega)) (by first | omega | (simp; omega)) ?_)
      | (refine ret1 (by rfl) (by rfl) (outB ?_); first | rfl | grind [Watch.level])
      | (refine ret1 (by rfl) (by rfl) (outI ?_); first | rfl | omega | grind [Watch.level])
      | (refine ret1 (by rfl) (by rfl) (outB ?_)) | (refine ret1 (by rfl) (by rfl) (outI ?_)))
end Go.Proofs.Ytpeejmolbmhjjaa.Sx
