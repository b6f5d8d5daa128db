/-
  WireC: what the functions compute, as plain Lean functions (printed by wip/tools/auto.py from the functions' trees). No condition.
-/
import Derived.Test.YtbnjdkpangmneaaWireBM
namespace Go.Proofs.Ytbnjdkpangmneaa
set_option linter.unusedVariables false
namespace Md
def wire_Checksum_loop2 (k : Nat) : Nat → UInt32 → Nat → Option UInt32
  | 0, _, _ => none
  | n4 + 1, s4_0, s4_1 => bif (decide (((s4_1 : Nat) : Int) < 8)) then (Md.ifp (s4_1 + 1 ≤ 9223372036854775807) <| wire_Checksum_loop2 k n4 ((Md.shr32 s4_0 1) ^^^ ((3988292384 : UInt32) * (s4_0 &&& (1 : UInt32)))) (s4_1 + 1)) else (some s4_0)
def wire_Checksum_loop1 (k : Nat) (a0 : List UInt8) : Nat → UInt32 → Nat → Option UInt32
  | 0, _, _ => none
  | n1 + 1, s1_0, s1_1 => bif (decide (((s1_1 : Nat) : Int) < ((a0.length : Nat) : Int))) then (Md.ifp (s1_1 < a0.length) <| (wire_Checksum_loop2 k k (s1_0 ^^^ ((a0.getD s1_1 default).toUInt32)) 0).bind fun x4_0 => Md.ifp (s1_1 + 1 ≤ 9223372036854775807) <| wire_Checksum_loop1 k a0 n1 x4_0 (s1_1 + 1)) else (some s1_0)
def wire_Checksum (k : Nat) (a0 : List UInt8) : Option UInt32 :=
  (wire_Checksum_loop1 k a0 k (4294967295 : UInt32) 0).bind fun x1_0 => some (~~~x1_0)
def wire_word (k : Nat) (a0 : List UInt8) (a1 : UInt32) : Option (List UInt8) :=
  Md.ifp (a0.length + [(a1.toUInt8), ((Md.shr32 a1 8).toUInt8), ((Md.shr32 a1 16).toUInt8), ((Md.shr32 a1 24).toUInt8)].length ≤ 4000000) <| some (a0 ++ [(a1.toUInt8), ((Md.shr32 a1 8).toUInt8), ((Md.shr32 a1 16).toUInt8), ((Md.shr32 a1 24).toUInt8)])
def wire_Seal (k : Nat) (a0 : Int) (a1 : List UInt8) : Option ((List UInt8) × Int) :=
  bif (((decide (a0 < 1)) || (decide (a0 > 255))) || (decide (((a1.length : Nat) : Int) > 16777216))) then (some (([] : List UInt8), 1)) else (Md.ifp (a1.length + 8 ≤ 9223372036854775807) <| (wire_extend k [(65 : UInt8), (71 : UInt8), (UInt8.ofInt a0)] (((a1.length + 8) : Nat) : Int)).bind fun x5 => (wire_putUint k x5 (UInt64.ofNat a1.length)).bind fun x6 => Md.ifp (x6.length + a1.length ≤ 4000000) <| (wire_Checksum k (x6 ++ a1)).bind fun x8 => (wire_word k (x6 ++ a1) x8).bind fun x9 => some (x9, 0))
def wire_Open (k : Nat) (a0 : List UInt8) : Option (Int × (List UInt8) × Int × Int) :=
  bif (decide (((a0.length : Nat) : Int) < 3)) then (some (0, ([] : List UInt8), 0, 2)) else (Md.ifp (0 < a0.length) <| ((bif ((((a0.getD 0 default)).toNat : Int) != 65) then (some true) else (Md.ifp (1 < a0.length) <| some ((((a0.getD 1 default)).toNat : Int) != 71))) : Option Bool).bind fun x3 => ((bif x3 then (some true) else (Md.ifp (2 < a0.length) <| some ((((a0.getD 2 default)).toNat : Int) == 0))) : Option Bool).bind fun x4 => bif x4 then (some (0, ([] : List UInt8), 0, 3)) else (Md.ifp (3 ≤ a0.length) <| (wire_length k (a0.drop 3) 16777216).bind fun x7 => bif (x7.2.2 != 0) then (some (0, ([] : List UInt8), 0, x7.2.2)) else (bif (decide ((Md.W (((a0.length : Nat) : Int) - (Md.W (3 + x7.2.1)))) < (Md.W (x7.1 + 4)))) then (some (0, ([] : List UInt8), 0, 2)) else (Md.ifp (0 ≤ (Md.W ((Md.W (3 + x7.2.1)) + x7.1))) <| Md.ifp (((Md.W ((Md.W (3 + x7.2.1)) + x7.1))).toNat ≤ a0.length) <| (wire_Checksum k (a0.take (((Md.W ((Md.W (3 + x7.2.1)) + x7.1))).toNat))).bind fun x12 => (wire_word k ([] : List UInt8) x12).bind fun x13 => Md.ifp (0 ≤ (Md.W ((Md.W (3 + x7.2.1)) + x7.1))) <| Md.ifp (0 ≤ (Md.W ((Md.W ((Md.W (3 + x7.2.1)) + x7.1)) + 4))) <| Md.ifp (((Md.W ((Md.W (3 + x7.2.1)) + x7.1))).toNat ≤ ((Md.W ((Md.W ((Md.W (3 + x7.2.1)) + x7.1)) + 4))).toNat ∧ ((Md.W ((Md.W ((Md.W (3 + x7.2.1)) + x7.1)) + 4))).toNat ≤ a0.length) <| bif (!(decide (x13 = ((a0.drop (((Md.W ((Md.W (3 + x7.2.1)) + x7.1))).toNat)).take (((Md.W ((Md.W ((Md.W (3 + x7.2.1)) + x7.1)) + 4))).toNat - (((Md.W ((Md.W (3 + x7.2.1)) + x7.1))).toNat)))))) then (some (0, ([] : List UInt8), 0, 4)) else (Md.ifp (2 < a0.length) <| Md.ifp (0 ≤ (Md.W (3 + x7.2.1))) <| Md.ifp (0 ≤ (Md.W ((Md.W (3 + x7.2.1)) + x7.1))) <| Md.ifp (((Md.W (3 + x7.2.1))).toNat ≤ ((Md.W ((Md.W (3 + x7.2.1)) + x7.1))).toNat ∧ ((Md.W ((Md.W (3 + x7.2.1)) + x7.1))).toNat ≤ a0.length) <| (wire_extend k ((a0.drop (((Md.W (3 + x7.2.1))).toNat)).take (((Md.W ((Md.W (3 + x7.2.1)) + x7.1))).toNat - (((Md.W (3 + x7.2.1))).toNat))) 0).bind fun x22 => some ((((a0.getD 2 default).toNat : Nat) : Int), x22, (Md.W ((Md.W ((Md.W (3 + x7.2.1)) + x7.1)) + 4)), 0))))))
end Md
end Go.Proofs.Ytbnjdkpangmneaa
