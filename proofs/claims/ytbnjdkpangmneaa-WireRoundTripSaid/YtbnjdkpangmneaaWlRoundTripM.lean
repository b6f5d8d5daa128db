/-
  WlRoundTrip: what the functions compute, as plain Lean functions (printed by wip/tools/auto.py from the functions' trees). No condition.
-/
import Derived.Test.YtbnjdkpangmneaaWireLM
namespace Go.Proofs.Ytbnjdkpangmneaa
set_option linter.unusedVariables false
namespace Md
def actorgridlaw1_WireRoundTrip (k : Nat) (a0 : Value) (a1 : UInt64) (a2 : Int) (a3 : List UInt8) (a4 : List UInt8) : Option Bool :=
  (actorgridlaw1_awake k).bind fun x1 => bif (!x1) then (some false) else ((actorgridlaw1_Small k a0).bind fun x3 => ((bif (!x3) then (some true) else ((wire_ValidValue k a0).bind fun x34 => some (!x34))) : Option Bool).bind fun x4 => bif ((x4 || (decide (((a3.length : Nat) : Int) > 100))) || (decide (((a4.length : Nat) : Int) > 100))) then (some true) else ((wire_AppendValue k ([] : List UInt8) a0).bind fun x8 => (actorgridlaw1_join k x8 a4).bind fun x9 => (wire_Value k x9).bind fun x10 => (wire_AppendUint k ([] : List UInt8) a1).bind fun x11 => (actorgridlaw1_join k x11 a4).bind fun x12 => (wire_Uint k x12).bind fun x13 => (wire_AppendInt k ([] : List UInt8) a2).bind fun x14 => (actorgridlaw1_join k x14 a4).bind fun x15 => (wire_Int k x15).bind fun x16 => ((bif ((x10.2.2 == 0) && (x10.2.1 == ((x8.length : Nat) : Int))) then ((wire_SameValue k x10.1 a0).bind fun x33 => some x33) else (some false)) : Option Bool).bind fun x18 => ((bif ((((((x18 && (x13.2.2 == 0)) && (x13.2.1 == ((x11.length : Nat) : Int))) && ((x13.1.toNat : Int) == (a1.toNat : Int))) && (x16.2.2 == 0)) && (x16.2.1 == ((x14.length : Nat) : Int))) && (x16.1 == a2)) then ((wire_AppendValue k a3 a0).bind fun x30 => (actorgridlaw1_join k a3 x8).bind fun x31 => (actorgridlaw1_same k x30 x31).bind fun x32 => some x32) else (some false)) : Option Bool).bind fun x25 => ((bif x25 then ((wire_AppendUint k a3 a1).bind fun x27 => (actorgridlaw1_join k a3 x11).bind fun x28 => (actorgridlaw1_same k x27 x28).bind fun x29 => some x29) else (some false)) : Option Bool).bind fun x26 => some x26))
end Md
end Go.Proofs.Ytbnjdkpangmneaa
