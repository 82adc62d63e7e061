/- What the given rows ask of the program as a whole, each by itself; there is no condition. -/
import Derived.Test.YtpeejmolbmhjjaaRows
namespace Go.Proofs.Ytpeejmolbmhjjaa.Facts
set_option linter.unusedSimpArgs false
set_option linter.unusedVariables false
open Go
set_option maxRecDepth 100000
theorem heard : (Try.prog.stopsHeard) = true := by kernel_rfl
theorem may : (Try.prog.mayEnter) = true := by kernel_rfl
theorem stops : (Try.prog.stops == []) = true := by kernel_rfl
theorem knobs : (Try.prog.stopKnobs == []) = true := by kernel_rfl
theorem laid : (laidOutB Try.prog) = true := by kernel_rfl
theorem lifted : (Rows.fnEndNewRow.lifted == Try.prog.liftsFinal) = true := by kernel_rfl
theorem make : (Try.prog.make == some Rows.fnEndNewRow.make) = true := by kernel_rfl
theorem keys : (Rows.fnEndNewRow.plainKeys == Try.prog.plainKeys) = true := by kernel_rfl
end Go.Proofs.Ytpeejmolbmhjjaa.Facts
