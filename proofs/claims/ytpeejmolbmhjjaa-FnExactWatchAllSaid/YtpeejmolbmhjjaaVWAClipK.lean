/- Words of walks, of the kit's print, as far as the texts of this claim name them; there is no condition beyond those each statement names. -/
import Derived.Test.YtpeejmolbmhjjaaVWAMore
import Derived.Lib.ConvBytes
/- What slices.Clip leaves of a row of the call's own is such a row; there is no condition beyond those each statement names. -/
set_option linter.unusedVariables false
namespace Go.Proofs.YtpeejmolbmhjjaaU.PrintWords
open Go.RowKit
namespace Kd
theorem R_clip {α : Type} {d : Kd α} {e : Nat} {w : World} {base : Nat} {ok : Nat → Prop} {A : Option Addr} {n c : Nat} {xs : List α} (h : d.R e w base ok (.slice A n c) xs) : d.R e w base ok (.slice A n n) xs := by
  obtain ⟨h0, inner, ho, hr⟩ := h
  have hn : n = xs.length := by
    obtain ⟨A', c', he⟩ := own_slice ho
    injection he
  subst hn
  have hb : (Value.slice A xs.length xs.length).ownBlock = (Value.slice A xs.length c).ownBlock := by cases A <;> rfl
  refine ⟨fun k hk => h0 k (by rw [← hb]; exact hk), inner, ho.clipped, ?_⟩
  rw [hb]
  exact hr
theorem R_le {α : Type} {d : Kd α} {e : Nat} {w : World} {base : Nat} {ok : Nat → Prop} {A : Option Addr} {n c : Nat} {xs : List α} (h : d.R e w base ok (.slice A n c) xs) : n ≤ c := by
  obtain ⟨h0, inner, ho, hr⟩ := h
  exact own_le ho
section
variable {P : Program} {ops : Array Oper} {rest : List Oper} {o : Oper} {a : Act} {Q : Exit → Act → World → Prop} {α : Type}
end
end Kd
end Go.Proofs.YtpeejmolbmhjjaaU.PrintWords
