/-
  WlNumbers: what the functions compute, as plain Lean functions (printed by wip/tools/auto.py from the functions' trees). No condition.
-/
import Derived.Test.YtbnjdkpangmneaaWireLM
namespace Go.Proofs.Ytbnjdkpangmneaa
set_option linter.unusedVariables false
namespace Md
def actorgridlaw1_WireNumbers (k : Nat) (a0 : List UInt8) (a1 : UInt64) (a2 : Int) : Option Bool :=
  (actorgridlaw1_awake k).bind fun x1 => bif (!x1) then (some false) else (bif (decide (((a0.length : Nat) : Int) > 2000)) then (some true) else ((wire_Uint k a0).bind fun x4 => (actorgridref1_ReadUint k a0).bind fun x5 => (wire_Int k a0).bind fun x6 => (actorgridref1_ReadInt k a0).bind fun x7 => ((bif (((((((x4.1.toNat : Int) == (x5.1.toNat : Int)) && (x4.2.1 == x5.2.1)) && (x4.2.2 == x5.2.2)) && (x6.1 == x7.1)) && (x6.2.1 == x7.2.1)) && (x6.2.2 == x7.2.2)) then ((wire_AppendUint k a0 a1).bind fun x19 => (actorgridref1_Uint k a1).bind fun x20 => (actorgridlaw1_join k a0 x20).bind fun x21 => (actorgridlaw1_same k x19 x21).bind fun x22 => some x22) else (some false)) : Option Bool).bind fun x13 => ((bif x13 then ((wire_AppendInt k a0 a2).bind fun x15 => (actorgridref1_Int k a2).bind fun x16 => (actorgridlaw1_join k a0 x16).bind fun x17 => (actorgridlaw1_same k x15 x17).bind fun x18 => some x18) else (some false)) : Option Bool).bind fun x14 => some x14))
end Md
end Go.Proofs.Ytbnjdkpangmneaa
