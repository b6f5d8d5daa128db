/-
  WlTexts: what the functions compute, as plain Lean functions (printed by wip/tools/auto.py from the functions' trees). No condition.
-/
import Derived.Test.YtbnjdkpangmneaaWireLM
namespace Go.Proofs.Ytbnjdkpangmneaa
set_option linter.unusedVariables false
namespace Md
def actorgridlaw1_WireTexts_loop1 (k : Nat) (a3 : List (List UInt8)) : Nat → Nat → Option (Sum Unit Bool)
  | 0, _ => none
  | n7 + 1, s7_0 => bif (decide (((s7_0 : Nat) : Int) < ((a3.length : Nat) : Int))) then (Md.ifp (s7_0 < a3.length) <| bif (decide ((((a3.getD s7_0 default).length : Nat) : Int) > 200)) then (some (Sum.inr true)) else (Md.ifp (s7_0 + 1 ≤ 9223372036854775807) <| actorgridlaw1_WireTexts_loop1 k a3 n7 (s7_0 + 1))) else (some (Sum.inl ()))
def actorgridlaw1_WireTexts (k : Nat) (a0 : List UInt8) (a1 : List UInt8) (a2 : List Int) (a3 : List (List UInt8)) (a4 : Int) : Option Bool :=
  (actorgridlaw1_awake k).bind fun x1 => bif (!x1) then (some false) else (bif ((((decide (((a0.length : Nat) : Int) > 2000)) || (decide (((a1.length : Nat) : Int) > 500))) || (decide (((a2.length : Nat) : Int) > 100))) || (decide (((a3.length : Nat) : Int) > 100))) then (some true) else ((actorgridlaw1_WireTexts_loop1 k a3 k 0).bind fun o7 => Md.onS o7 (fun x7_0 => (wire_String k a0 a4).bind fun x8 => (actorgridref1_ReadString k a0 a4).bind fun x9 => (wire_IntList k a0 a4).bind fun x10 => (actorgridref1_ReadIntList k a0 a4).bind fun x11 => (wire_StringList k a0 a4).bind fun x12 => (actorgridref1_ReadStringList k a0 a4).bind fun x13 => ((bif (((!(decide (x8.1 = x9.1))) || (x8.2.1 != x9.2.1)) || (x8.2.2 != x9.2.2)) then (some true) else ((actorgridref1_SameInts k x10.1 x11.1).bind fun x38 => some (!x38))) : Option Bool).bind fun x16 => ((bif ((x16 || (x10.2.1 != x11.2.1)) || (x10.2.2 != x11.2.2)) then (some true) else ((actorgridref1_SameStrings k x12.1 x13.1).bind fun x37 => some (!x37))) : Option Bool).bind fun x19 => bif ((x19 || (x12.2.1 != x13.2.1)) || (x12.2.2 != x13.2.2)) then (some false) else ((wire_AppendString k a0 a1).bind fun x23 => (actorgridref1_String k a1).bind fun x24 => (actorgridlaw1_join k a0 x24).bind fun x25 => (actorgridlaw1_same k x23 x25).bind fun x26 => ((bif x26 then ((wire_AppendInts k a0 a2).bind fun x33 => (actorgridref1_IntList k a2).bind fun x34 => (actorgridlaw1_join k a0 x34).bind fun x35 => (actorgridlaw1_same k x33 x35).bind fun x36 => some x36) else (some false)) : Option Bool).bind fun x27 => ((bif x27 then ((wire_AppendStrings k a0 a3).bind fun x29 => (actorgridref1_StringList k a3).bind fun x30 => (actorgridlaw1_join k a0 x30).bind fun x31 => (actorgridlaw1_same k x29 x31).bind fun x32 => some x32) else (some false)) : Option Bool).bind fun x28 => some x28)) (fun r7 => some r7)))
end Md
end Go.Proofs.Ytbnjdkpangmneaa
