/-
  Parts of a proof: YteiakclfpfmigaaDel.
-/
import Derived.Test.YteiakclfpfmigaaChecked
import Derived.Shelf.RegionOpenPlain
import Derived.WalkKit
import Derived.Deep.RegionLaw
import Derived.KernelRfl
import Derived.Test.YteiakclfpfmigaaM7
import Derived.Test.YteiakclfpfmigaaM11
set_option linter.unusedSimpArgs false
set_option linter.unusedVariables false
section
namespace Go.Proofs
open Go.Shelf Go.RowKit
end Go.Proofs
end
