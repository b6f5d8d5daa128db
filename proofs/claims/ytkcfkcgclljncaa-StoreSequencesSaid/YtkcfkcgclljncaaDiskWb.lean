/-
  The walks over package disk and its reference, second part: copies.
-/
import Derived.Test.YtkcfkcgclljncaaDiskWa
import Derived.Test.YtkcfkcgclljncaaKitLow
import Derived.Deep.RegionLaw
import Derived.BigRegion
import Derived.Lib.Buffer
namespace Go.Proofs.Ytkcfkcgclljncaa
set_option linter.unusedVariables false
open Go.ChangeShapes Go.WideShapes Go.RowKit
open Kit
namespace Disk

theorem elemB : Elem Try.prog 24 5 1 1 := elem_mk (z := .int .u8 0) Try.underlying24 (by kernel_rfl) rfl (by decide)







end Disk
end Go.Proofs.Ytkcfkcgclljncaa
