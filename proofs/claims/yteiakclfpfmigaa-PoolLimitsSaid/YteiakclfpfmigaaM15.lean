/-
  Parts of a proof: YteiakclfpfmigaaArg.
-/
import Derived.Test.YteiakclfpfmigaaM10
import Derived.Test.YteiakclfpfmigaaM14
set_option linter.unusedSimpArgs false
set_option linter.unusedVariables false
section
namespace Go.Proofs.Yteiakclfpfmigaa
open Go.Am
set_option maxRecDepth 100000
set_option linter.unusedSimpArgs false
set_option linter.unusedVariables false
theorem c5 : Try.prog.cellsOf 5 = 1 := by kernel_rfl
theorem u5 : Try.prog.underlying 5 = some (.int .u8) := by kernel_rfl
theorem c4 : Try.prog.cellsOf 4 = 1 := by kernel_rfl
theorem c3 : Try.prog.cellsOf 3 = 1 := by kernel_rfl
end Go.Proofs.Yteiakclfpfmigaa
end
