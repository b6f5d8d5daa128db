/-
  WlSums: what the functions compute, as plain Lean functions (printed by wip/tools/auto.py from the functions' trees). No condition.
-/
import Derived.Test.YtbnjdkpangmneaaWireLM
namespace Go.Proofs.Ytbnjdkpangmneaa
set_option linter.unusedVariables false
namespace Md
def actorgridlaw1_WireSums_loop1 (k : Nat) (a0 : List UInt8) (a1 : List UInt8) : Nat → Nat → (List UInt8) → Option (List UInt8)
  | 0, _, _ => none
  | n7 + 1, s7_0, s7_1 => bif (decide (((s7_0 : Nat) : Int) < ((a0.length : Nat) : Int))) then (Md.ifp (s7_0 < a0.length) <| Md.ifp (s7_0 < a1.length) <| Md.ifp (s7_0 < s7_1.length) <| Md.ifp (s7_0 + 1 ≤ 9223372036854775807) <| actorgridlaw1_WireSums_loop1 k a0 a1 n7 (s7_0 + 1) (s7_1.set s7_0 ((a0.getD s7_0 default) ^^^ (a1.getD s7_0 default)))) else (some s7_1)
def actorgridlaw1_WireSums (k : Nat) (a0 : List UInt8) (a1 : List UInt8) : Option Bool :=
  (actorgridlaw1_awake k).bind fun x1 => bif (!x1) then (some false) else (bif (((decide (((a0.length : Nat) : Int) > 500)) || (decide (((a1.length : Nat) : Int) < ((a0.length : Nat) : Int)))) || (decide (((a1.length : Nat) : Int) > 500))) then (some true) else (Md.ifp (a0.length ≤ 16000000) <| (actorgridlaw1_WireSums_loop1 k a0 a1 k 0 (List.replicate a0.length (0 : UInt8))).bind fun x7_0 => (wire_Checksum k x7_0).bind fun x8 => (wire_Checksum k a0).bind fun x9 => Md.ifp (a0.length ≤ a1.length) <| (wire_Checksum k (a1.take a0.length)).bind fun x11 => Md.ifp (a0.length ≤ 16000000) <| (wire_Checksum k (List.replicate a0.length (0 : UInt8))).bind fun x13 => some ((x8.toNat : Int) == ((((x9 ^^^ x11) ^^^ x13)).toNat : Int))))
end Md
end Go.Proofs.Ytbnjdkpangmneaa
