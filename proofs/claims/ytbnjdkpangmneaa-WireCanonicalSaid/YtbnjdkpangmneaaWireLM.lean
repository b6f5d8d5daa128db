/-
  WireL: what the functions compute, as plain Lean functions (printed by wip/tools/auto.py from the functions' trees). No condition.
-/
import Derived.Test.YtbnjdkpangmneaaWireRM
namespace Go.Proofs.Ytbnjdkpangmneaa
set_option linter.unusedVariables false
namespace Md
def actorgridlaw1_awake (k : Nat) : Option Bool :=
  (wire_Uint k [(172 : UInt8), (2 : UInt8), (9 : UInt8)]).bind fun x1 => (wire_Uint k [(128 : UInt8), (0 : UInt8)]).bind fun x2 => (wire_AppendString k ([] : List UInt8) [97, 98]).bind fun x3 => (wire_String k x3 2).bind fun x4 => (wire_AppendValue k ([] : List UInt8) (⟨5, 0, ([] : List UInt8), ([] : List Int), [[113]]⟩ : Value)).bind fun x5 => (wire_Value k x5).bind fun x6 => (wire_Seal k 7 [(98 : UInt8), (111 : UInt8), (100 : UInt8), (121 : UInt8)]).bind fun x7 => (wire_Open k x7.1).bind fun x8 => ((bif ((((((((((x1.1.toNat : Int) == 300) && (x1.2.1 == 2)) && (x1.2.2 == 0)) && (x2.2.2 == 3)) && (decide (x4.1 = [97, 98]))) && (x4.2.1 == 3)) && (x4.2.2 == 0)) && (x6.2.2 == 0)) && (((x6.1.L.length : Nat) : Int) == 1)) then (Md.ifp (0 < x6.1.L.length) <| some (decide ((x6.1.L.getD 0 default) = [113]))) else (some false)) : Option Bool).bind fun x17 => ((bif ((((x17 && (x7.2 == 0)) && (x8.2.2.2 == 0)) && (x8.1 == 7)) && (decide (x8.2.1 = [98, 111, 100, 121]))) then ((wire_Checksum k [(49 : UInt8), (50 : UInt8), (51 : UInt8), (52 : UInt8), (53 : UInt8), (54 : UInt8), (55 : UInt8), (56 : UInt8), (57 : UInt8)]).bind fun x25 => some ((x25.toNat : Int) == 3421780262)) else (some false)) : Option Bool).bind fun x22 => ((bif x22 then ((wire_AppendInt k [(5 : UInt8)] (-1)).bind fun x24 => some (decide (x24 = [5, 1]))) else (some false)) : Option Bool).bind fun x23 => some x23
def actorgridlaw1_same (k : Nat) (a0 : List UInt8) (a1 : List UInt8) : Option Bool :=
  some (decide (a0 = a1))
def actorgridlaw1_join (k : Nat) (a0 : List UInt8) (a1 : List UInt8) : Option (List UInt8) :=
  Md.ifp (([] : List UInt8).length + a0.length ≤ 4000000) <| Md.ifp ((([] : List UInt8) ++ a0).length + a1.length ≤ 4000000) <| some ((([] : List UInt8) ++ a0) ++ a1)
def actorgridlaw1_Small_loop1 (k : Nat) (a0 : Value) : Nat → Nat → Option (Sum Unit Bool)
  | 0, _ => none
  | n4 + 1, s4_0 => bif (decide (((s4_0 : Nat) : Int) < ((a0.L.length : Nat) : Int))) then (Md.ifp (s4_0 < a0.L.length) <| bif (decide ((((a0.L.getD s4_0 default).length : Nat) : Int) > 200)) then (some (Sum.inr false)) else (Md.ifp (s4_0 + 1 ≤ 9223372036854775807) <| actorgridlaw1_Small_loop1 k a0 n4 (s4_0 + 1))) else (some (Sum.inl ()))
def actorgridlaw1_Small (k : Nat) (a0 : Value) : Option Bool :=
  bif (((decide (((a0.S.length : Nat) : Int) > 500)) || (decide (((a0.I.length : Nat) : Int) > 100))) || (decide (((a0.L.length : Nat) : Int) > 100))) then (some false) else ((actorgridlaw1_Small_loop1 k a0 k 0).bind fun o4 => Md.onS o4 (fun x4_0 => some true) (fun r4 => some r4))
end Md
end Go.Proofs.Ytbnjdkpangmneaa
