/- The law FnMouthAgain comes to true; there is no condition beyond those each statement names. -/
import Derived.Test.YtpeejmolbmhjjaaF23
import Derived.Test.YtpeejmolbmhjjaaF20
namespace Go.Proofs.Ytpeejmolbmhjjaa.Sx
set_option linter.unusedSimpArgs false
set_option linter.unusedVariables false
open Go
set_option maxRecDepth 100000
set_option maxHeartbeats 0
theorem goMouth {b : Nat} {l : List Int} {p n : Int} {M : Nat → Option (List AV)} {ok : Nat → Bool} {K : List (Nat × List AV) → Out → Prop} (hl : okB l) (hm : memIs M ok [(b, rd l p)]) (hp : 0 ≤ p ∧ p < 500000000000) (hn : n ≤ 1000000000000 ∧ -1000000000000 ≤ n)
    (hk : ∀ p' (m : Mouth), p ≤ p' → p' ≤ p + 1000 → m.keep.length ≤ 64 → m.early.length ≤ 4 → K [(b, rd l p)] { mem := [rd l p'], res := .pv m.v }) :
    ∃ (m : List (Nat × List AV)) (R : Out → Prop), FnM Try.prog 125 m [(false, [.ptr b 0]), int n] R ∧ memIs M ok m ∧ ∀ o, R o → (o.tk.all fun x => Nat.ble 2 x.1 && Nat.blt x.1 9) = true → K m o :=
  goRd (mouth_r hl p hp n hn) rfl (by rintro p' v ⟨_, m, _, rfl⟩; rfl) hm (by rintro p' v ⟨⟨h1, h2⟩, m, ⟨h3, h4⟩, rfl⟩; exact hk p' m h1 h2 h3 h4)
theorem drawMouthAgain_r {l : List Int} (hl : l.length ≤ 1048576) (h2 : ∀ x ∈ l, 0 ≤ x ∧ x ≤ 255) : Fx 66 [byts l] fun v => ∃ (m : Mouth) (n : Int), m.keep.length ≤ 64 ∧ m.early.length ≤ 4 ∧ (0 ≤ n ∧ n < 14) ∧ v = .tup [m.v, int n] := by
  refine fn_of_vc tab_ok mixed Try.call66 Try.func66 rfl [] _ _ (by kernel_rfl) rfl rfl rfl ?_
  (conv => whnf)
  refine ⟨[], _, open_r hl h2, trivial, ?_⟩
  rintro o ⟨l', hl', rfl⟩ _
  (conv => whnf); refine goMouth hl' (by exact ⟨⟨rfl, rfl⟩, trivial⟩) (by first | omega | (dsimp only; omega) | (simp; omega)) (by first | omega | (dsimp only; omega) | (simp; omega)) fun p1 m h3 h4 h5 h6 => ?_
  (conv => whnf); refine goPick hl' (by exact ⟨⟨rfl, rfl⟩, trivial⟩) (by first | omega | (dsimp only; omega) | (simp; omega)) (by first | omega | (dsimp only; omega) | (simp; omega)) fun n hn1 hn2 => ?_
  (conv => whnf)
  exact retE (by rfl) (by rfl) ⟨m, n, h5, h6, by omega, rfl⟩
theorem law16 (l : List Int) (h2 : ∀ x ∈ l, 0 ≤ x ∧ x ≤ 255) : Pure 16 [byts l] (.pv (bool true)) := by
  refine fn_of_vc tab_ok mixed Try.call16 Try.func16 rfl [] _ _ (by kernel_rfl) rfl rfl rfl ?_
  (conv => whnf); split <;> rename_i hq
  · (conv => whnf); exact ret1 (by rfl) (by rfl) (by rfl)
  have hl : l.length ≤ 1048576 := by simp at hq; omega
  (conv => whnf); refine goE (drawMouthAgain_r hl h2) ?_
  rintro _ ⟨m, n, hk, he, hn, rfl⟩
  have hbk := bytes_len m.keep
  by_cases hc : m.ok = true ∧ 1 ≤ n ∧ n ≤ 12
  · have a1 := mouthAgain_ok m n (by omega) (by omega)
    have a2 := mouthAgain_ok' m n (by omega) (by omega)
    rw [if_pos hc] at a1 a2
    obtain ⟨r1, r2, r3, r4, r5⟩ := againN_r hc.1 hc.2
    obtain ⟨b1, b2, b3, b4, b5⟩ := Mouth.ok_base hc.1
    have hbl : (m.keep.take (m.againN n).toNat).length = (m.againN n).toNat := by simp; omega
    generalize hb : m.keep.take (m.againN n).toNat = b at *
    have hbb := bytes_len b
    (conv => whnf); refine goP a1 ?_
    (conv => whnf); refine goP a2 ?_
    (conv => whnf)
    rw [show decide (m.heard = m.heard) = true by simp]
    (conv => whnf); refine goP (sameBytes_ok b) ?_
    (conv => whnf); refine goP (mouthOk_ok m (by omega) (by omega)) ?_
    rw [hc.1]
    (conv => whnf)
    rw [show decide (n < 1) = false by simp; omega]
    (conv => whnf)
    rw [show decide (12 < n) = false by simp; omega]
    (conv => whnf)
    refine ⟨Nat, fun x => x ≤ m.early.length, fun x => ⟨[(3, .one (.ptr 3 0)), (5, .one (.i .i64 m.heard)), (6, .one (.lst 0 0 5 (bytes b))), (9, .one (.i .i64 x))], [(3, m.c)], [(1, 0)], [3], [1]⟩, fun x => m.early.length - x, 0, fun x => rfl, ?_, (by refine ⟨?_, ?_, ?_⟩ <;> repeat' (first | exact trivial | refine ⟨rfl, ?_⟩)), ?_⟩
    · show 0 ≤ m.early.length; omega
    rintro k hk2
    have hml : (m.early.map Rng.c).length = m.early.length := by simp
    (conv => whnf); split <;> rename_i h4 <;> simp only [decide_eq_true_eq, decide_eq_false_iff_not] at h4
    case h_1 =>
      have hlt : k < m.early.length := by omega
      have h5 := r5 k hlt
      (conv => whnf); refine goW (by omega) (by omega) ?_
      (conv => whnf); refine goIdx (rat m.early k).c (by omega) rfl (by simpa using rat_get hlt) ?_
      (conv => whnf)
      rw [show decide ((rat m.early k).fr < m.heard + (bytes b).length) = false by simp; omega]
      (conv => whnf); refine goW (by omega) (by omega) ?_
      (conv => whnf)
      refine ⟨k + 1, ?_, (by refine ⟨?_, ?_, ?_⟩ <;> repeat' (first | exact trivial | refine ⟨rfl, ?_⟩)), ?_⟩
      · show k + 1 ≤ m.early.length; omega
      · show m.early.length - (k + 1) < m.early.length - k; omega
    (conv => whnf)
    rw [show decide (m.heard = m.heard) = true by simp]
    (conv => whnf)
    rw [show decide (((bytes b).length : Int) ≤ m.sent) = true by simp; omega]
    (conv => whnf)
    refine ⟨by omega, by omega, ?_⟩
    rw [show (bytes m.keep).take ((bytes b).length : Int).toNat = bytes b by rw [hbb, Int.toNat_natCast, bytes_take, hbl, hb]]
    (conv => whnf); refine goP (sameBytes_ok b) ?_
    (conv => whnf)
    rw [show (decide (0 < ((bytes b).length : Int)) == decide (0 < m.sent)) = true by rw [beq_iff_eq, decide_eq_decide]; omega]
    (conv => whnf); refine goP alive_ok ?_
    (conv => whnf); exact ret1 (by rfl) (by rfl) (by rfl)
  · have a1 := mouthAgain_ok m n (by omega) (by omega)
    have a2 := mouthAgain_ok' m n (by omega) (by omega)
    rw [if_neg hc] at a1 a2
    (conv => whnf); refine goP a1 ?_
    (conv => whnf); refine goP a2 ?_
    (conv => whnf); refine goP (sameBytes_ok []) ?_
    (conv => whnf); refine goP (mouthOk_ok m (by omega) (by omega)) ?_
    rcases (Bool.eq_false_or_eq_true m.ok).symm with hok | hok
    · rw [hok]
      (conv => whnf); refine goP alive_ok ?_
      (conv => whnf); exact ret1 (by rfl) (by rfl) (by rfl)
    · rw [hok]
      (conv => whnf)
      by_cases h1 : n < 1
      · rw [show decide (n < 1) = true by simpa using h1]
        (conv => whnf); refine goP alive_ok ?_
        (conv => whnf); exact ret1 (by rfl) (by rfl) (by rfl)
      · rw [show decide (n < 1) = false by simpa using h1]
        (conv => whnf)
        rw [show decide (12 < n) = true by simp; have : ¬ n ≤ 12 := fun h => hc ⟨hok, by omega, h⟩; omega]
        (conv => whnf); refine goP alive_ok ?_
        (conv => whnf); exact ret1 (by rfl) (by rfl) (by rfl)
end Go.Proofs.Ytpeejmolbmhjjaa.Sx
