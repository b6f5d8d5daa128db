/-
  WlValues: what the functions compute, as plain Lean functions (printed by wip/tools/auto.py from the functions' trees). No condition.
-/
import Derived.Test.YtbnjdkpangmneaaWireLM
namespace Go.Proofs.Ytbnjdkpangmneaa
set_option linter.unusedVariables false
namespace Md
def actorgridlaw1_WireValues (k : Nat) (a0 : List UInt8) (a1 : Value) (a2 : Value) : Option Bool :=
  (actorgridlaw1_awake k).bind fun x1 => bif (!x1) then (some false) else (((bif (decide (((a0.length : Nat) : Int) > 2000)) then (some true) else ((actorgridlaw1_Small k a1).bind fun x28 => some (!x28))) : Option Bool).bind fun x3 => ((bif x3 then (some true) else ((actorgridlaw1_Small k a2).bind fun x27 => some (!x27))) : Option Bool).bind fun x4 => bif x4 then (some true) else ((wire_Value k a0).bind fun x6 => (actorgridref1_ReadValue k a0).bind fun x7 => (actorgridref1_SameValue k x6.1 x7.1).bind fun x8 => bif (!x8) then (some false) else (bif (x6.2.1 != x7.2.1) then (some false) else (bif (x6.2.2 != x7.2.2) then (some false) else ((wire_ValidValue k a1).bind fun x12 => (actorgridref1_ValidValue k a1).bind fun x13 => bif (!(x12 == x13)) then (some false) else ((wire_SameValue k a1 a2).bind fun x15 => (actorgridref1_SameValue k a1 a2).bind fun x16 => bif (!(x15 == x16)) then (some false) else ((wire_SameValue k a1 a1).bind fun x18 => bif (!x18) then (some false) else ((actorgridref1_ValidValue k a1).bind fun x20 => bif (!x20) then ((wire_AppendValue k a0 a1).bind fun x22 => some (((x22.length : Nat) : Int) == 0)) else ((wire_AppendValue k a0 a1).bind fun x23 => (actorgridref1_Value k a1).bind fun x24 => (actorgridlaw1_join k a0 x24).bind fun x25 => (actorgridlaw1_same k x23 x25).bind fun x26 => some x26)))))))))
end Md
end Go.Proofs.Ytbnjdkpangmneaa
