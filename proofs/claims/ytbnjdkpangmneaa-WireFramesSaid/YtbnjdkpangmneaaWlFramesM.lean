/-
  WlFrames: what the functions compute, as plain Lean functions (printed by wip/tools/auto.py from the functions' trees). No condition.
-/
import Derived.Test.YtbnjdkpangmneaaWireLM
namespace Go.Proofs.Ytbnjdkpangmneaa
set_option linter.unusedVariables false
namespace Md
def actorgridlaw1_WireFrames (k : Nat) (a0 : List UInt8) (a1 : Int) (a2 : List UInt8) : Option Bool :=
  (actorgridlaw1_awake k).bind fun x1 => bif (!x1) then (some false) else (bif ((decide (((a0.length : Nat) : Int) > 2000)) || (decide (((a2.length : Nat) : Int) > 2000))) then (some true) else ((wire_Seal k a1 a2).bind fun x5 => (actorgridref1_Seal k a1 a2).bind fun x6 => (wire_Open k a0).bind fun x7 => (actorgridref1_Open k a0).bind fun x8 => (actorgridlaw1_same k x5.1 x6.1).bind fun x9 => ((bif ((x9 && (x5.2 == x6.2)) && (x7.1 == x8.1)) then ((actorgridlaw1_same k x7.2.1 x8.2.1).bind fun x18 => some x18) else (some false)) : Option Bool).bind fun x12 => ((bif ((x12 && (x7.2.2.1 == x8.2.2.1)) && (x7.2.2.2 == x8.2.2.2)) then ((wire_Checksum k a0).bind fun x16 => (actorgridref1_Checksum k a0).bind fun x17 => some ((x16.toNat : Int) == (x17.toNat : Int))) else (some false)) : Option Bool).bind fun x15 => some x15))
end Md
end Go.Proofs.Ytbnjdkpangmneaa
