/-
  slices.Concat of byte strings, as a plain function. No condition.
-/
import Derived.Test.YtkcfkcgclljncaaMd
namespace Go.Proofs.Ytkcfkcgclljncaa
namespace Md
def slices_Concat (k : Nat) (a0 : List (List UInt8)) : Option (List UInt8) := ifp (a0.flatten.length ≤ 4000000 ∧ a0.length ≤ 4000000) <| some a0.flatten
end Md
end Go.Proofs.Ytkcfkcgclljncaa
