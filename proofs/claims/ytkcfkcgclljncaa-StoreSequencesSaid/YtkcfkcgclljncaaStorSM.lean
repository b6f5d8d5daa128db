/-
  StorS: what the functions compute, as plain Lean functions (printed by wip/tools/auto.py from the functions' trees). No condition.
-/
import Derived.Test.YtkcfkcgclljncaaStorKM
namespace Go.Proofs.Ytkcfkcgclljncaa
set_option linter.unusedVariables false
namespace Md
structure Actorgridlaw28Act where
  Kind : UInt8
  B : List UInt8
  Writes : UInt8
  Keep : UInt8
  deriving Inhabited, DecidableEq
end Md
end Go.Proofs.Ytkcfkcgclljncaa
