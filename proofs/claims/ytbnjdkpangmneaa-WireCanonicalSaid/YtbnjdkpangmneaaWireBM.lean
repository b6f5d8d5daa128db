/-
  WireB: what the functions compute, as plain Lean functions (printed by wip/tools/auto.py from the functions' trees). No condition.
-/
import Derived.Test.YtbnjdkpangmneaaWireAM
namespace Go.Proofs.Ytbnjdkpangmneaa
set_option linter.unusedVariables false
namespace Md
def wire_Uint_loop1 (k : Nat) (a0 : List UInt8) : Nat → UInt64 → Nat → Option (Sum Unit (UInt64 × Int × Int))
  | 0, _, _ => none
  | n1 + 1, s1_0, s1_1 => bif (decide (((s1_1 : Nat) : Int) < ((a0.length : Nat) : Int))) then (Md.ifp (s1_1 < a0.length) <| bif (((((s1_1 : Nat) : Int) == 9) && (decide ((((a0.getD s1_1 default)).toNat : Int) > 1))) || ((decide (((s1_1 : Nat) : Int) > 0)) && ((((a0.getD s1_1 default)).toNat : Int) == 0))) then (some (Sum.inr ((0 : UInt64), 0, 3))) else (Md.ifp (7 * s1_1 ≤ 9223372036854775807) <| bif (decide ((((a0.getD s1_1 default)).toNat : Int) < 128)) then (Md.ifp (s1_1 + 1 ≤ 9223372036854775807) <| some (Sum.inr ((s1_0 ||| (Md.shl64 (((a0.getD s1_1 default) &&& (127 : UInt8)).toUInt64) (7 * s1_1))), (((s1_1 + 1) : Nat) : Int), 0))) else (Md.ifp (s1_1 + 1 ≤ 9223372036854775807) <| wire_Uint_loop1 k a0 n1 (s1_0 ||| (Md.shl64 (((a0.getD s1_1 default) &&& (127 : UInt8)).toUInt64) (7 * s1_1))) (s1_1 + 1)))) else (some (Sum.inl ()))
def wire_Uint (k : Nat) (a0 : List UInt8) : Option (UInt64 × Int × Int) :=
  (wire_Uint_loop1 k a0 k (0 : UInt64) 0).bind fun o1 => Md.onS o1 (fun x1_0 => some ((0 : UInt64), 0, 2)) (fun r1 => some r1)
def wire_Int (k : Nat) (a0 : List UInt8) : Option (Int × Int × Int) :=
  (wire_Uint k a0).bind fun x1 => some ((Md.ixor (Md.W ((Md.shr64 x1.1 1).toNat : Int)) (Md.W (-(Md.W ((x1.1 &&& (1 : UInt64)).toNat : Int))))), x1.2.1, x1.2.2)
def wire_length (k : Nat) (a0 : List UInt8) (a1 : Int) : Option (Int × Int × Int) :=
  bif (decide (a1 < 0)) then (some (0, 0, 1)) else ((wire_Uint k a0).bind fun x2 => bif (x2.2.2 != 0) then (some (0, 0, x2.2.2)) else (bif (decide ((x2.1.toNat : Int) > (((UInt64.ofInt a1)).toNat : Int))) then (some (0, 0, 5)) else (some ((Md.W (x2.1.toNat : Int)), x2.2.1, 0))))
def wire_String (k : Nat) (a0 : List UInt8) (a1 : Int) : Option ((List UInt8) × Int × Int) :=
  (wire_length k a0 a1).bind fun x1 => bif (x1.2.2 != 0) then (some (([] : List UInt8), 0, x1.2.2)) else (bif (decide ((Md.W (((a0.length : Nat) : Int) - x1.2.1)) < x1.1)) then (some (([] : List UInt8), 0, 2)) else (Md.ifp (0 ≤ x1.2.1) <| Md.ifp (0 ≤ (Md.W (x1.2.1 + x1.1))) <| Md.ifp ((x1.2.1).toNat ≤ ((Md.W (x1.2.1 + x1.1))).toNat ∧ ((Md.W (x1.2.1 + x1.1))).toNat ≤ a0.length) <| some (((a0.drop ((x1.2.1).toNat)).take (((Md.W (x1.2.1 + x1.1))).toNat - ((x1.2.1).toNat))), (Md.W (x1.2.1 + x1.1)), 0)))
def wire_list_int__wire_Int_loop1 (k : Nat) (a0 : List UInt8) (x1 : Int × Int × Int) : Nat → Int → Int → Nat → (List Int) → Option (Int × Int × (List Int))
  | 0, _, _, _, _ => none
  | n2 + 1, s2_0, s2_1, s2_2, s2_3 => bif ((s2_1 == 0) && (decide (((s2_2 : Nat) : Int) < x1.1))) then (Md.ifp (0 ≤ s2_0) <| Md.ifp ((s2_0).toNat ≤ a0.length) <| (wire_Int k (a0.drop ((s2_0).toNat))).bind fun x8 => Md.ifp (s2_3.length + [x8.1].length ≤ 4000000) <| Md.ifp (s2_2 + 1 ≤ 9223372036854775807) <| wire_list_int__wire_Int_loop1 k a0 x1 n2 (Md.W (s2_0 + x8.2.1)) x8.2.2 (s2_2 + 1) (s2_3 ++ [x8.1])) else (some (s2_0, s2_1, s2_3))
def wire_list_int__wire_Int (k : Nat) (a0 : List UInt8) (a1 : Int) : Option ((List Int) × Int × Int) :=
  (wire_length k a0 a1).bind fun x1 => (wire_list_int__wire_Int_loop1 k a0 x1 k x1.2.1 x1.2.2 0 ([] : List Int)).bind fun x2_0 => bif (x2_0.2.1 != 0) then (some (([] : List Int), 0, x2_0.2.1)) else (some (x2_0.2.2, x2_0.1, 0))
def wire_IntList (k : Nat) (a0 : List UInt8) (a1 : Int) : Option ((List Int) × Int × Int) :=
  (wire_list_int__wire_Int k a0 a1).bind fun x1 => some (x1.1, x1.2.1, x1.2.2)
def wire_StringList_1 (k : Nat) (a0 : List UInt8) : Option ((List UInt8) × Int × Int) :=
  (wire_String k a0 64).bind fun x1 => some (x1.1, x1.2.1, x1.2.2)
def wire_list_string__wire_StringList_1_loop1 (k : Nat) (a0 : List UInt8) (x1 : Int × Int × Int) : Nat → Int → Int → Nat → (List (List UInt8)) → Option (Int × Int × (List (List UInt8)))
  | 0, _, _, _, _ => none
  | n2 + 1, s2_0, s2_1, s2_2, s2_3 => bif ((s2_1 == 0) && (decide (((s2_2 : Nat) : Int) < x1.1))) then (Md.ifp (0 ≤ s2_0) <| Md.ifp ((s2_0).toNat ≤ a0.length) <| (wire_StringList_1 k (a0.drop ((s2_0).toNat))).bind fun x8 => Md.ifp (s2_3.length + [x8.1].length ≤ 4000000) <| Md.ifp (s2_2 + 1 ≤ 9223372036854775807) <| wire_list_string__wire_StringList_1_loop1 k a0 x1 n2 (Md.W (s2_0 + x8.2.1)) x8.2.2 (s2_2 + 1) (s2_3 ++ [x8.1])) else (some (s2_0, s2_1, s2_3))
def wire_list_string__wire_StringList_1 (k : Nat) (a0 : List UInt8) (a1 : Int) : Option ((List (List UInt8)) × Int × Int) :=
  (wire_length k a0 a1).bind fun x1 => (wire_list_string__wire_StringList_1_loop1 k a0 x1 k x1.2.1 x1.2.2 0 ([] : List (List UInt8))).bind fun x2_0 => bif (x2_0.2.1 != 0) then (some (([] : List (List UInt8)), 0, x2_0.2.1)) else (some (x2_0.2.2, x2_0.1, 0))
def wire_StringList (k : Nat) (a0 : List UInt8) (a1 : Int) : Option ((List (List UInt8)) × Int × Int) :=
  (wire_list_string__wire_StringList_1 k a0 a1).bind fun x1 => some (x1.1, x1.2.1, x1.2.2)
def wire_boolean (k : Nat) (a0 : List UInt8) : Option (Int × Int × Int) :=
  bif (((a0.length : Nat) : Int) == 0) then (some (0, 0, 2)) else (Md.ifp (0 < a0.length) <| bif (decide ((((a0.getD 0 default)).toNat : Int) > 1)) then (some (0, 0, 3)) else (Md.ifp (0 < a0.length) <| some ((((a0.getD 0 default).toNat : Nat) : Int), 1, 0)))
def wire_Value (k : Nat) (a0 : List UInt8) : Option (Value × Int × Int) :=
  bif (((a0.length : Nat) : Int) == 0) then (some ((⟨0, 0, ([] : List UInt8), ([] : List Int), ([] : List (List UInt8))⟩ : Value), 0, 2)) else (Md.ifp (0 < a0.length) <| Md.ifp (1 ≤ a0.length) <| bif ((((a0.getD 0 default).toNat : Nat) : Int) == 0) then (some ((⟨(((a0.getD 0 default).toNat : Nat) : Int), 0, ([] : List UInt8), ([] : List Int), ([] : List (List UInt8))⟩ : Value), 1, 0)) else (bif ((((a0.getD 0 default).toNat : Nat) : Int) == 1) then ((wire_Int k (a0.drop 1)).bind fun x6 => bif (x6.2.2 != 0) then (some ((⟨0, 0, ([] : List UInt8), ([] : List Int), ([] : List (List UInt8))⟩ : Value), 0, x6.2.2)) else (some ((⟨(((a0.getD 0 default).toNat : Nat) : Int), x6.1, ([] : List UInt8), ([] : List Int), ([] : List (List UInt8))⟩ : Value), (Md.W (x6.2.1 + 1)), 0))) else (bif ((((a0.getD 0 default).toNat : Nat) : Int) == 2) then ((wire_boolean k (a0.drop 1)).bind fun x9 => bif (x9.2.2 != 0) then (some ((⟨0, 0, ([] : List UInt8), ([] : List Int), ([] : List (List UInt8))⟩ : Value), 0, x9.2.2)) else (some ((⟨(((a0.getD 0 default).toNat : Nat) : Int), x9.1, ([] : List UInt8), ([] : List Int), ([] : List (List UInt8))⟩ : Value), (Md.W (x9.2.1 + 1)), 0))) else (bif ((((a0.getD 0 default).toNat : Nat) : Int) == 3) then ((wire_String k (a0.drop 1) 64).bind fun x12 => bif (x12.2.2 != 0) then (some ((⟨0, 0, ([] : List UInt8), ([] : List Int), ([] : List (List UInt8))⟩ : Value), 0, x12.2.2)) else (some ((⟨(((a0.getD 0 default).toNat : Nat) : Int), 0, x12.1, ([] : List Int), ([] : List (List UInt8))⟩ : Value), (Md.W (x12.2.1 + 1)), 0))) else (bif ((((a0.getD 0 default).toNat : Nat) : Int) == 4) then ((wire_IntList k (a0.drop 1) 16).bind fun x15 => bif (x15.2.2 != 0) then (some ((⟨0, 0, ([] : List UInt8), ([] : List Int), ([] : List (List UInt8))⟩ : Value), 0, x15.2.2)) else (some ((⟨(((a0.getD 0 default).toNat : Nat) : Int), 0, ([] : List UInt8), x15.1, ([] : List (List UInt8))⟩ : Value), (Md.W (x15.2.1 + 1)), 0))) else (bif ((((a0.getD 0 default).toNat : Nat) : Int) == 5) then ((wire_StringList k (a0.drop 1) 16).bind fun x18 => bif (x18.2.2 != 0) then (some ((⟨0, 0, ([] : List UInt8), ([] : List Int), ([] : List (List UInt8))⟩ : Value), 0, x18.2.2)) else (some ((⟨(((a0.getD 0 default).toNat : Nat) : Int), 0, ([] : List UInt8), ([] : List Int), x18.1⟩ : Value), (Md.W (x18.2.1 + 1)), 0))) else (some ((⟨0, 0, ([] : List UInt8), ([] : List Int), ([] : List (List UInt8))⟩ : Value), 0, 3))))))))
def wire_same_int_loop1 (k : Nat) (a0 : List Int) (a1 : List Int) : Nat → Nat → Option (Sum Unit Bool)
  | 0, _ => none
  | n2 + 1, s2_0 => bif (decide (((s2_0 : Nat) : Int) < ((a0.length : Nat) : Int))) then (Md.ifp (s2_0 < a0.length) <| Md.ifp (s2_0 < a1.length) <| bif ((a0.getD s2_0 default) != (a1.getD s2_0 default)) then (some (Sum.inr false)) else (Md.ifp (s2_0 + 1 ≤ 9223372036854775807) <| wire_same_int_loop1 k a0 a1 n2 (s2_0 + 1))) else (some (Sum.inl ()))
def wire_same_int (k : Nat) (a0 : List Int) (a1 : List Int) : Option Bool :=
  bif (((a0.length : Nat) : Int) != ((a1.length : Nat) : Int)) then (some false) else ((wire_same_int_loop1 k a0 a1 k 0).bind fun o2 => Md.onS o2 (fun x2_0 => some true) (fun r2 => some r2))
def wire_same_string_loop1 (k : Nat) (a0 : List (List UInt8)) (a1 : List (List UInt8)) : Nat → Nat → Option (Sum Unit Bool)
  | 0, _ => none
  | n2 + 1, s2_0 => bif (decide (((s2_0 : Nat) : Int) < ((a0.length : Nat) : Int))) then (Md.ifp (s2_0 < a0.length) <| Md.ifp (s2_0 < a1.length) <| bif (!(decide ((a0.getD s2_0 default) = (a1.getD s2_0 default)))) then (some (Sum.inr false)) else (Md.ifp (s2_0 + 1 ≤ 9223372036854775807) <| wire_same_string_loop1 k a0 a1 n2 (s2_0 + 1))) else (some (Sum.inl ()))
def wire_same_string (k : Nat) (a0 : List (List UInt8)) (a1 : List (List UInt8)) : Option Bool :=
  bif (((a0.length : Nat) : Int) != ((a1.length : Nat) : Int)) then (some false) else ((wire_same_string_loop1 k a0 a1 k 0).bind fun o2 => Md.onS o2 (fun x2_0 => some true) (fun r2 => some r2))
def wire_SameValue (k : Nat) (a0 : Value) (a1 : Value) : Option Bool :=
  ((bif (((a0.Kind == a1.Kind) && (a0.N == a1.N)) && (decide (a0.S = a1.S))) then ((wire_same_int k a0.I a1.I).bind fun x6 => some x6) else (some false)) : Option Bool).bind fun x3 => ((bif x3 then ((wire_same_string k a0.L a1.L).bind fun x5 => some x5) else (some false)) : Option Bool).bind fun x4 => some x4
end Md
end Go.Proofs.Ytbnjdkpangmneaa
