/- A fixed answer: alive; there is no condition beyond those each statement names. -/
import Derived.Test.YtpeejmolbmhjjaaF19
namespace Go.Proofs.Ytpeejmolbmhjjaa.Sx
set_option linter.unusedSimpArgs false
set_option linter.unusedVariables false
open Go
set_option maxRecDepth 100000
set_option maxHeartbeats 0
theorem bytesOf_ok : Pure 136 [int 5, int 1] (.pv (false, [.lst 0 0 5 [[.i .u8 5]]])) := by
  refine fn_of_vc tab_ok mixed Try.call136 Try.func136 rfl [] _ _ (by kernel_rfl) rfl rfl rfl ?_
  (conv => whnf)
  refine ⟨rfl, by decide, by decide, by decide, ?_⟩
  (conv => whnf); refine goW (by omega) (by omega) ?_
  (conv => whnf)
  refine ⟨Nat, fun x => x ≤ 1, fun x => ⟨[(0, .one (.i .i64 (5 - 5 * x))), (5, .one (.row 8 1 5)), (6, .one (.i .i64 (-x)))], [(8, [.i .u8 (5 * x)])], [(1, 0)], [8], [1]⟩, fun x => 1 - x, 0, fun x => rfl, ?_, (by refine ⟨?_, ?_, ?_⟩ <;> repeat' (first | exact trivial | refine ⟨rfl, ?_⟩)), ?_⟩
  · show 0 ≤ 1; omega
  rintro k hk
  obtain rfl | rfl : k = 0 ∨ k = 1 := by have : k ≤ 1 := hk; omega
  · (conv => whnf); refine ⟨5, by decide, ?_⟩
    (conv => whnf); refine ⟨by decide, ?_⟩
    (conv => whnf); refine ⟨by decide, 0, by decide, ?_⟩
    (conv => whnf); refine ⟨-1, by decide, ?_⟩
    (conv => whnf)
    refine ⟨1, ?_, (by refine ⟨?_, ?_, ?_⟩ <;> repeat' (first | exact trivial | refine ⟨rfl, ?_⟩)), ?_⟩
    · show 1 ≤ 1; omega
    · show 1 - 1 < 1 - 0; omega
  · (conv => whnf)
    refine retRow (by rfl) (by rfl) (by rfl) (by rfl) (by rfl) (by rfl) (by rfl) ?_ ?_
    · intro x hx
      simp [stripV, AV.strip] at hx; subst hx; rfl
    · rfl
theorem bytesOf5_ok : Pure 86 [int 5, int 1] (.pv (false, [.lst 0 0 5 [[.i .u8 5]]])) := by
  refine fn_of_vc tab_ok mixed Try.call86 Try.func86 rfl [] _ _ (by kernel_rfl) rfl rfl rfl ?_
  (conv => whnf); refine goP (in_ok 1 1 4) ?_
  (conv => whnf); refine ⟨8, by decide, ?_⟩
  (conv => whnf); refine ⟨by decide, 256, by decide, ?_⟩
  (conv => whnf); refine ⟨255, by decide, ?_⟩
  (conv => whnf); refine goP (in_ok 5 0 255) ?_
  (conv => whnf); refine goP bytesOf_ok ?_
  (conv => whnf); exact ret1 (by rfl) (by rfl) (by rfl)
theorem bytesOf256_ok : Pure 86 [int 256, int 1] (.pv (false, [.lst 0 0 5 []])) := by
  refine fn_of_vc tab_ok mixed Try.call86 Try.func86 rfl [] _ _ (by kernel_rfl) rfl rfl rfl ?_
  (conv => whnf); refine goP (in_ok 1 1 4) ?_
  (conv => whnf); refine ⟨8, by decide, ?_⟩
  (conv => whnf); refine ⟨by decide, 256, by decide, ?_⟩
  (conv => whnf); refine ⟨255, by decide, ?_⟩
  (conv => whnf); refine goP (in_ok 256 0 255) ?_
  (conv => whnf); exact ret1 (by rfl) (by rfl) (by rfl)
theorem alive_ok : Pure 23 [] (.pv (bool true)) := by
  refine fn_of_vc tab_ok mixed Try.call23 Try.func23 rfl [] _ _ (by kernel_rfl) rfl rfl rfl ?_
  (conv => whnf); refine goP bytesOf5_ok ?_
  (conv => whnf); refine goP bytesOf256_ok ?_
  (conv => whnf); exact ret1 (by rfl) (by rfl) (by rfl)
end Go.Proofs.Ytpeejmolbmhjjaa.Sx
