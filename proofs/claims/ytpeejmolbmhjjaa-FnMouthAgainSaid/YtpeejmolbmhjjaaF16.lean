/- The drawn watch; there is no condition beyond those each statement names. -/
import Derived.Test.YtpeejmolbmhjjaaF15
import Derived.Test.YtpeejmolbmhjjaaF10
namespace Go.Proofs.Ytpeejmolbmhjjaa.Sx
set_option linter.unusedSimpArgs false
set_option linter.unusedVariables false
open Go
set_option maxRecDepth 100000
set_option maxHeartbeats 0
theorem odd_r {l : List Int} (hl : okB l) (p : Int) (hp : 0 ≤ p ∧ p < 900000000000) (n : Int) (hn : n ≤ 1000000000000 ∧ -1000000000000 ≤ n) : Reads 134 l p [int n] fun p' v => (p ≤ p' ∧ p' ≤ p + 1) ∧ ∃ b, v = bool b := by
  refine fn_of_vc tab_ok mixed Try.call134 Try.func134 rfl [(1000, rd l p)] _ _ (by kernel_rfl) rfl rfl rfl ?_
  repeat' ((conv => whnf); first
      | (refine goPick hl (by exact ⟨⟨rfl, rfl⟩, trivial⟩) (by omega) (by omega) fun i hi1 hi2 => ?_)
      | (refine retG [] 0 (by rfl) (by rfl) (by rfl) (by rfl) (by rfl) (by rfl) ⟨_, bool _, ⟨?_, _, rfl⟩, rfl⟩ <;> omega)
      | (split <;> rename_i hq <;> (try simp only [Bool.not_eq_eq_eq_not, Bool.not_true, Bool.not_false, decide_eq_true_eq, decide_eq_false_iff_not, inB_t, inB_f, bytes_len, List.length_map, Bool.and_eq_true, Bool.and_eq_false_iff, and_true] at hq) <;> (try (exfalso; first | omega | (simp_all; done))))
      | (refine goW (by first | omega | (simp; omega)) (by first | omega | (simp; omega)) ?_)
      | (refine ret1 (by rfl) (by rfl) (outB ?_); first | rfl | grind [inB])
      | (refine ret1 (by rfl) (by rfl) (outI ?_); first | rfl | omega | grind [inB])
      | (refine ret1 (by rfl) (by rfl) (outB ?_)) | (refine ret1 (by rfl) (by rfl) (outI ?_)))
theorem goOdd {b : Nat} {l : List Int} {p n : Int} {M : Nat → Option (List AV)} {ok : Nat → Bool} {K : List (Nat × List AV) → Out → Prop} (hl : okB l) (hm : memIs M ok [(b, rd l p)]) (hp : 0 ≤ p ∧ p < 900000000000) (hn : n ≤ 1000000000000 ∧ -1000000000000 ≤ n)
    (hk : ∀ p' x, p ≤ p' → p' ≤ p + 1 → K [(b, rd l p)] { mem := [rd l p'], res := .pv (bool x) }) :
    ∃ (m : List (Nat × List AV)) (R : Out → Prop), FnM Try.prog 134 m [(false, [.ptr b 0]), int n] R ∧ memIs M ok m ∧ ∀ o, R o → (o.tk.all fun x => Nat.ble 2 x.1 && Nat.blt x.1 9) = true → K m o :=
  goRd (odd_r hl p hp n hn) rfl (by rintro p' v ⟨_, x, rfl⟩; rfl) hm (by rintro p' v ⟨⟨h1, h2⟩, x, rfl⟩; exact hk p' x h1 h2)
theorem goBoth {a b : Int} {M : Nat → Option (List AV)} {ok : Nat → Bool} {K : List (Nat × List AV) → Out → Prop} (ha : 0 ≤ a ∧ a < 1000000000) (hb : 0 ≤ b ∧ b < 1000000000) (hk : ∀ r, 0 ≤ r → r ≤ 7 → K [] { res := .pv (int r) }) :
    ∃ (m : List (Nat × List AV)) (R : Out → Prop), FnM Try.prog 82 m [int a, int b] R ∧ memIs M ok m ∧ ∀ o, R o → (o.tk.all fun x => Nat.ble 2 x.1 && Nat.blt x.1 9) = true → K m o :=
  goP (both_ok a b ha hb) (hk _ (bothK_r a b 3).1 (bothK_r a b 3).2)
theorem watch_r {l : List Int} (hl : okB l) (p : Int) (hp : 0 ≤ p ∧ p < 800000000000) (n : Int) (hn : n ≤ 1000000000000 ∧ -1000000000000 ≤ n) : Reads 79 l p [int n] fun p' v => (p ≤ p' ∧ p' ≤ p + 4) ∧ ∃ w : Watch, ((0 ≤ w.asks ∧ w.asks ≤ 7) ∧ (-1 ≤ w.told ∧ w.told ≤ 9)) ∧ v = w.v := by
  refine fn_of_vc tab_ok mixed Try.call79 Try.func79 rfl [(1000, rd l p)] _ _ (by kernel_rfl) rfl rfl rfl ?_
  repeat' ((conv => whnf); first
      | (refine goPick hl (by exact ⟨⟨rfl, rfl⟩, trivial⟩) (by omega) (by omega) fun i hi1 hi2 => ?_)
      | (split <;> rename_i hq <;> (try simp only [Bool.not_eq_eq_eq_not, Bool.not_true, Bool.not_false, decide_eq_true_eq, decide_eq_false_iff_not, inB_t, inB_f, bytes_len, List.length_map, Bool.and_eq_true, Bool.and_eq_false_iff, and_true] at hq) <;> (try (exfalso; first | omega | (simp_all; done))))
      | (refine goW (by first | omega | (simp; omega)) (by first | omega | (simp; omega)) ?_)
      | (refine ret1 (by rfl) (by rfl) (outB ?_); first | rfl | grind [inB])
      | (refine ret1 (by rfl) (by rfl) (outI ?_); first | rfl | omega | grind [inB])
      | (refine ret1 (by rfl) (by rfl) (outB ?_)) | (refine ret1 (by rfl) (by rfl) (outI ?_)))
  (conv => whnf)
  refine ⟨[0, 1, 2, 3, 4, 5, 6], [(1, [5]), (3, [1000]), (6, [5])], (by kernel_rfl), ?_⟩
  (conv => whnf)
  repeat' ((conv => whnf); first
      | (refine goPick hl (by exact ⟨⟨rfl, rfl⟩, trivial⟩) (by omega) (by omega) fun i hi1 hi2 => ?_)
      | (refine goBoth (by omega) (by omega) fun r hr1 hr2 => ?_)
      | (refine goOdd hl (by exact ⟨⟨rfl, rfl⟩, trivial⟩) (by omega) (by omega) fun p' x hx1 hx2 => ?_)
      | (split <;> rename_i hq <;> (try simp only [Bool.not_eq_eq_eq_not, Bool.not_true, Bool.not_false, decide_eq_true_eq, decide_eq_false_iff_not, inB_t, inB_f, bytes_len, List.length_map, Bool.and_eq_true, Bool.and_eq_false_iff, and_true] at hq) <;> (try (exfalso; first | omega | (simp_all; done))))
      | (refine goW (by first | omega | (simp; omega)) (by first | omega | (simp; omega)) ?_)
      | (refine ret1 (by rfl) (by rfl) (outB ?_); first | rfl | grind [inB])
      | (refine ret1 (by rfl) (by rfl) (outI ?_); first | rfl | omega | grind [inB])
      | (refine ret1 (by rfl) (by rfl) (outB ?_)) | (refine ret1 (by rfl) (by rfl) (outI ?_)))
  all_goals (conv => whnf)
  all_goals refine retG [] 0 (by rfl) (by rfl) (by rfl) (by rfl) (by rfl) (by rfl) ⟨_, _, ⟨⟨?_, ?_⟩, ⟨_, _⟩, ⟨⟨?_, ?_⟩, ?_, ?_⟩, rfl⟩, rfl⟩ <;> (try dsimp only) <;> omega
end Go.Proofs.Ytpeejmolbmhjjaa.Sx
