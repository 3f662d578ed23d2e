/-
  Parts of a proof.
-/
import Derived.Test.YtiallbcnaadmoaaM13
import Derived.Test.YtiallbcnaadmoaaM16
set_option linter.unusedSimpArgs false
set_option linter.unusedVariables false
section
namespace Go.Proofs.Ytiallbcnaadmoaa
open Go.Am
set_option maxRecDepth 100000
set_option linter.unusedSimpArgs false
set_option linter.unusedVariables false
theorem c5 : Try.prog.cellsOf 5 = 1 := by kernel_rfl
theorem u5 : Try.prog.underlying 5 = some (.int .u8) := by kernel_rfl
theorem u22 : Try.prog.underlying 22 = some (.slice 5) := by kernel_rfl
theorem c3 : Try.prog.cellsOf 3 = 1 := by kernel_rfl
theorem u9 : Try.prog.underlying 9 = some (.string) := by kernel_rfl
theorem u69 : Try.prog.underlying 69 = some (.int .u16) := by kernel_rfl
end Go.Proofs.Ytiallbcnaadmoaa
end
