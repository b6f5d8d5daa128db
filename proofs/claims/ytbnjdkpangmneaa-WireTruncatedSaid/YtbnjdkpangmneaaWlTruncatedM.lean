/-
  WlTruncated: what the functions compute, as plain Lean functions (printed by wip/tools/auto.py from the functions' trees). No condition.
-/
import Derived.Test.YtbnjdkpangmneaaWireLM
namespace Go.Proofs.Ytbnjdkpangmneaa
set_option linter.unusedVariables false
namespace Md
def actorgridlaw1_WireTruncated (k : Nat) (a0 : Value) (a1 : List UInt8) (a2 : UInt16) : Option Bool :=
  (actorgridlaw1_awake k).bind fun x1 => bif (!x1) then (some false) else ((actorgridlaw1_Small k a0).bind fun x3 => ((bif (!x3) then (some true) else ((wire_ValidValue k a0).bind fun x21 => some (!x21))) : Option Bool).bind fun x4 => bif (x4 || (decide (((a1.length : Nat) : Int) > 1000))) then (some true) else ((wire_AppendValue k ([] : List UInt8) a0).bind fun x7 => (wire_Seal k 1 a1).bind fun x8 => bif (((((x7.length : Nat) : Int) == 0) || (x8.2 != 0)) || (((x8.1.length : Nat) : Int) == 0)) then (some false) else (Md.ifp (0 < x7.length) <| Md.ifp ((a2.toNat % x7.length) ≤ x7.length) <| (wire_Value k (x7.take (a2.toNat % x7.length))).bind fun x14 => Md.ifp (0 < x8.1.length) <| Md.ifp ((a2.toNat % x8.1.length) ≤ x8.1.length) <| (wire_Open k (x8.1.take (a2.toNat % x8.1.length))).bind fun x17 => some ((((x14.2.2 == 2) && (x14.2.1 == 0)) && (x17.2.2.2 == 2)) && (x17.2.2.1 == 0)))))
end Md
end Go.Proofs.Ytbnjdkpangmneaa
