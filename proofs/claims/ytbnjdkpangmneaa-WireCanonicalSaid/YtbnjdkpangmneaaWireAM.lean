/-
  WireA: what the functions compute, as plain Lean functions (printed by wip/tools/auto.py from the functions' trees). No condition.
-/
import Derived.Test.YtbnjdkpangmneaaMd
namespace Go.Proofs.Ytbnjdkpangmneaa
set_option linter.unusedVariables false
namespace Md
structure Value where
  Kind : Int
  N : Int
  S : List UInt8
  I : List Int
  L : List (List UInt8)
  deriving Inhabited, DecidableEq
def Value.ok (x : Value) : Prop := Md.I64 x.Kind ∧ Md.I64 x.N ∧ (∀ y ∈ x.I, Md.I64 y)
def wire_extend (k : Nat) (a0 : List UInt8) (a1 : Int) : Option (List UInt8) :=
  Md.ifp (0 ≤ (Md.W (((a0.length : Nat) : Int) + a1))) <| Md.ifp (((Md.W (((a0.length : Nat) : Int) + a1))).toNat ≤ 16000000) <| Md.ifp (a0.length ≤ ((Md.W (((a0.length : Nat) : Int) + a1))).toNat) <| some (a0.take (List.replicate a0.length (0 : UInt8)).length ++ (List.replicate a0.length (0 : UInt8)).drop a0.length)
def wire_putUint_loop1 (k : Nat) : Nat → UInt64 → (List UInt8) → Option (UInt64 × (List UInt8))
  | 0, _, _ => none
  | n1 + 1, s1_0, s1_1 => bif (decide ((s1_0.toNat : Int) ≥ 128)) then (Md.ifp (s1_1.length + [((s1_0.toUInt8) ||| (128 : UInt8))].length ≤ 4000000) <| wire_putUint_loop1 k n1 (Md.shr64 s1_0 7) (s1_1 ++ [((s1_0.toUInt8) ||| (128 : UInt8))])) else (some (s1_0, s1_1))
def wire_putUint (k : Nat) (a0 : List UInt8) (a1 : UInt64) : Option (List UInt8) :=
  (wire_putUint_loop1 k k a1 a0).bind fun x1_0 => Md.ifp (x1_0.2.length + [(x1_0.1.toUInt8)].length ≤ 4000000) <| some (x1_0.2 ++ [(x1_0.1.toUInt8)])
def wire_putInt (k : Nat) (a0 : List UInt8) (a1 : Int) : Option (List UInt8) :=
  (wire_putUint k a0 ((Md.shl64 (UInt64.ofInt a1) 1) ^^^ (UInt64.ofInt (Md.ishr a1 63)))).bind fun x1 => some x1
def wire_putString (k : Nat) (a0 : List UInt8) (a1 : List UInt8) : Option (List UInt8) :=
  (wire_putUint k a0 (UInt64.ofNat a1.length)).bind fun x1 => Md.ifp (x1.length + a1.length ≤ 4000000) <| some (x1 ++ a1)
def wire_AppendUint (k : Nat) (a0 : List UInt8) (a1 : UInt64) : Option (List UInt8) :=
  (wire_extend k a0 10).bind fun x1 => (wire_putUint k x1 a1).bind fun x2 => some x2
def wire_AppendInt (k : Nat) (a0 : List UInt8) (a1 : Int) : Option (List UInt8) :=
  (wire_extend k a0 10).bind fun x1 => (wire_putInt k x1 a1).bind fun x2 => some x2
def wire_AppendString (k : Nat) (a0 : List UInt8) (a1 : List UInt8) : Option (List UInt8) :=
  Md.ifp (a1.length + 10 ≤ 9223372036854775807) <| (wire_extend k a0 (((a1.length + 10) : Nat) : Int)).bind fun x2 => (wire_putString k x2 a1).bind fun x3 => some x3
def wire_AppendInts_loop1 (k : Nat) (a1 : List Int) : Nat → Nat → (List UInt8) → Option (List UInt8)
  | 0, _, _ => none
  | n5 + 1, s5_0, s5_1 => bif (decide (((s5_0 : Nat) : Int) < ((a1.length : Nat) : Int))) then (Md.ifp (s5_0 < a1.length) <| (wire_putInt k s5_1 (a1.getD s5_0 default)).bind fun x8 => Md.ifp (s5_0 + 1 ≤ 9223372036854775807) <| wire_AppendInts_loop1 k a1 n5 (s5_0 + 1) x8) else (some s5_1)
def wire_AppendInts (k : Nat) (a0 : List UInt8) (a1 : List Int) : Option (List UInt8) :=
  Md.ifp (2 * a1.length ≤ 9223372036854775807) <| Md.ifp (10 + (2 * a1.length) ≤ 9223372036854775807) <| (wire_extend k a0 (((10 + (2 * a1.length)) : Nat) : Int)).bind fun x3 => (wire_putUint k x3 (UInt64.ofNat a1.length)).bind fun x4 => (wire_AppendInts_loop1 k a1 k 0 x4).bind fun x5_0 => some x5_0
def wire_AppendStrings_loop1 (k : Nat) (a1 : List (List UInt8)) : Nat → Nat → (List UInt8) → Option (List UInt8)
  | 0, _, _ => none
  | n5 + 1, s5_0, s5_1 => bif (decide (((s5_0 : Nat) : Int) < ((a1.length : Nat) : Int))) then (Md.ifp (s5_0 < a1.length) <| (wire_putString k s5_1 (a1.getD s5_0 default)).bind fun x8 => Md.ifp (s5_0 + 1 ≤ 9223372036854775807) <| wire_AppendStrings_loop1 k a1 n5 (s5_0 + 1) x8) else (some s5_1)
def wire_AppendStrings (k : Nat) (a0 : List UInt8) (a1 : List (List UInt8)) : Option (List UInt8) :=
  Md.ifp (10 * a1.length ≤ 9223372036854775807) <| Md.ifp (10 + (10 * a1.length) ≤ 9223372036854775807) <| (wire_extend k a0 (((10 + (10 * a1.length)) : Nat) : Int)).bind fun x3 => (wire_putUint k x3 (UInt64.ofNat a1.length)).bind fun x4 => (wire_AppendStrings_loop1 k a1 k 0 x4).bind fun x5_0 => some x5_0
def wire_ValidValue_loop1 (k : Nat) (a0 : Value) : Nat → Nat → Option (Sum Unit Bool)
  | 0, _ => none
  | n16 + 1, s16_0 => bif (decide (((s16_0 : Nat) : Int) < ((a0.L.length : Nat) : Int))) then (Md.ifp (s16_0 < a0.L.length) <| bif (decide ((((a0.L.getD s16_0 default).length : Nat) : Int) > 64)) then (some (Sum.inr false)) else (Md.ifp (s16_0 + 1 ≤ 9223372036854775807) <| wire_ValidValue_loop1 k a0 n16 (s16_0 + 1))) else (some (Sum.inl ()))
def wire_ValidValue (k : Nat) (a0 : Value) : Option Bool :=
  bif ((decide (a0.Kind < 0)) || (decide (a0.Kind > 5))) then (some false) else (bif (((a0.N != 0) && (a0.Kind != 1)) && ((a0.Kind != 2) || (a0.N != 1))) then (some false) else (bif ((!(decide (a0.S = []))) && (a0.Kind != 3)) then (some false) else (bif ((decide (((a0.I.length : Nat) : Int) > 0)) && (a0.Kind != 4)) then (some false) else (bif ((decide (((a0.L.length : Nat) : Int) > 0)) && (a0.Kind != 5)) then (some false) else (bif (((decide (((a0.S.length : Nat) : Int) > 64)) || (decide (((a0.I.length : Nat) : Int) > 16))) || (decide (((a0.L.length : Nat) : Int) > 16))) then (some false) else ((wire_ValidValue_loop1 k a0 k 0).bind fun o16 => Md.onS o16 (fun x16_0 => some true) (fun r16 => some r16)))))))
def wire_AppendValue (k : Nat) (a0 : List UInt8) (a1 : Value) : Option (List UInt8) :=
  (wire_ValidValue k a1).bind fun x1 => bif (!x1) then (some ([] : List UInt8)) else ((wire_extend k a0 16).bind fun x3 => Md.ifp (x3.length + [(UInt8.ofInt a1.Kind)].length ≤ 4000000) <| bif (a1.Kind == 1) then ((wire_putInt k (x3 ++ [(UInt8.ofInt a1.Kind)]) a1.N).bind fun x6 => some x6) else (bif (a1.Kind == 2) then (Md.ifp ((x3 ++ [(UInt8.ofInt a1.Kind)]).length + [(UInt8.ofInt a1.N)].length ≤ 4000000) <| some ((x3 ++ [(UInt8.ofInt a1.Kind)]) ++ [(UInt8.ofInt a1.N)])) else (bif (a1.Kind == 3) then ((wire_putString k (x3 ++ [(UInt8.ofInt a1.Kind)]) a1.S).bind fun x10 => some x10) else (bif (a1.Kind == 4) then ((wire_AppendInts k (x3 ++ [(UInt8.ofInt a1.Kind)]) a1.I).bind fun x12 => some x12) else (bif (a1.Kind == 5) then ((wire_AppendStrings k (x3 ++ [(UInt8.ofInt a1.Kind)]) a1.L).bind fun x14 => some x14) else (some (x3 ++ [(UInt8.ofInt a1.Kind)])))))))
end Md
end Go.Proofs.Ytbnjdkpangmneaa
