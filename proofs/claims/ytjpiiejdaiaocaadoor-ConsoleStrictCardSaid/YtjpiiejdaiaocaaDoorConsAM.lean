/-
  ConsA: what the functions compute, as plain Lean functions (printed by wip/tools/auto.py from the functions' trees). No condition.
-/
import Derived.Test.YtjpiiejdaiaocaaDoorLicM
namespace Go.Proofs.YtjpiiejdaiaocaaDoor
set_option linter.unusedVariables false
namespace Md
structure Consoleformat where
  word : List UInt8
  words : List UInt8
  min : Int
  max : Int
  deriving Inhabited, DecidableEq
def Consoleformat.ok (x : Consoleformat) : Prop := x.word.length ≤ 9223372036854775807 ∧ x.words.length ≤ 9223372036854775807 ∧ Md.I64 x.min ∧ Md.I64 x.max
structure Arr8Consoleformat where
  x0 : Consoleformat
  x1 : Consoleformat
  x2 : Consoleformat
  x3 : Consoleformat
  x4 : Consoleformat
  x5 : Consoleformat
  x6 : Consoleformat
  x7 : Consoleformat
  deriving Inhabited, DecidableEq
def Arr8Consoleformat.get (x : Arr8Consoleformat) (i : Int) : Consoleformat := if i = 0 then x.x0 else if i = 1 then x.x1 else if i = 2 then x.x2 else if i = 3 then x.x3 else if i = 4 then x.x4 else if i = 5 then x.x5 else if i = 6 then x.x6 else x.x7
def Arr8Consoleformat.ok (x : Arr8Consoleformat) : Prop := x.x0.ok ∧ x.x1.ok ∧ x.x2.ok ∧ x.x3.ok ∧ x.x4.ok ∧ x.x5.ok ∧ x.x6.ok ∧ x.x7.ok
structure Ref where
  fType : List UInt8
  Key : List UInt8
  deriving Inhabited, DecidableEq
def Ref.ok (x : Ref) : Prop := x.fType.length ≤ 9223372036854775807 ∧ x.Key.length ≤ 9223372036854775807
structure ConsoleCommand where
  Kind : Int
  Topic : List UInt8
  Actor : Ref
  Method : List UInt8
  Number : Int
  deriving Inhabited, DecidableEq
def ConsoleCommand.ok (x : ConsoleCommand) : Prop := Md.I64 x.Kind ∧ x.Topic.length ≤ 9223372036854775807 ∧ x.Actor.ok ∧ x.Method.length ≤ 9223372036854775807 ∧ Md.I64 x.Number
def internal_stringslite_Cut (k : Nat) (a0 : List UInt8) (a1 : List UInt8) : Option ((List UInt8) × (List UInt8) × Bool) :=
  (internal_stringslite_Index k a0 a1).bind fun x1 => bif (decide (x1 ≥ 0)) then (Md.ifp (0 ≤ x1) <| Md.ifp ((x1).toNat ≤ a0.length) <| Md.ifp (0 ≤ (Md.W (x1 + ((a1.length : Nat) : Int)))) <| Md.ifp (((Md.W (x1 + ((a1.length : Nat) : Int)))).toNat ≤ a0.length) <| some ((a0.take ((x1).toNat)), (a0.drop (((Md.W (x1 + ((a1.length : Nat) : Int)))).toNat)), true)) else (some (a0, ([] : List UInt8), false))
def strings_Cut (k : Nat) (a0 : List UInt8) (a1 : List UInt8) : Option ((List UInt8) × (List UInt8) × Bool) :=
  (internal_stringslite_Cut k a0 a1).bind fun x1 => some (x1.1, x1.2.1, x1.2.2)
def console_formats (k : Nat) : Option Arr8Consoleformat :=
  some (⟨(⟨([] : List UInt8), ([] : List UInt8), 0, 0⟩ : Consoleformat), (⟨([115, 117, 98, 115, 99, 114, 105, 98, 101] : List UInt8), ([116, 97, 107, 109] : List UInt8), 0, 0⟩ : Consoleformat), (⟨([117, 110, 115, 117, 98, 115, 99, 114, 105, 98, 101] : List UInt8), ([116, 97, 107, 109] : List UInt8), 0, 0⟩ : Consoleformat), (⟨([109, 111, 118, 101] : List UInt8), ([97, 107, 110] : List UInt8), 1, 1000⟩ : Consoleformat), (⟨([117, 112, 103, 114, 97, 100, 101] : List UInt8), ([110] : List UInt8), 1, 1099511627776⟩ : Consoleformat), (⟨([97, 100, 118, 97, 110, 99, 101] : List UInt8), ([110] : List UInt8), 0, 100⟩ : Consoleformat), (⟨([102, 105, 110, 105, 115, 104] : List UInt8), ([] : List UInt8), 0, 0⟩ : Consoleformat), (⟨([99, 97, 110, 99, 101, 108] : List UInt8), ([] : List UInt8), 0, 0⟩ : Consoleformat)⟩ : Arr8Consoleformat)
def console_Name_loop1 (k : Nat) (a0 : List UInt8) : Nat → Nat → Option (Sum Unit Bool)
  | 0, _ => none
  | n3 + 1, s3_0 => bif (decide (((s3_0 : Nat) : Int) < ((a0.length : Nat) : Int))) then (Md.ifp (s3_0 < a0.length) <| bif ((!((((decide ((((a0.getD s3_0 0)).toNat : Int) ≥ 97)) && (decide ((((a0.getD s3_0 0)).toNat : Int) ≤ 122))) || ((decide ((((a0.getD s3_0 0)).toNat : Int) ≥ 65)) && (decide ((((a0.getD s3_0 0)).toNat : Int) ≤ 90)))) || ((((a0.getD s3_0 0)).toNat : Int) == 95))) && (((((s3_0 : Nat) : Int) == 0) || (decide ((((a0.getD s3_0 0)).toNat : Int) < 48))) || (decide ((((a0.getD s3_0 0)).toNat : Int) > 57)))) then (some (Sum.inr false)) else (Md.ifp (s3_0 + 1 ≤ 9223372036854775807) <| console_Name_loop1 k a0 n3 (s3_0 + 1))) else (some (Sum.inl ()))
def console_Name (k : Nat) (a0 : List UInt8) : Option Bool :=
  bif ((decide (((a0.length : Nat) : Int) < 1)) || (decide (((a0.length : Nat) : Int) > 32))) then (some false) else ((console_Name_loop1 k a0 k 0).bind fun o3 => Md.onS o3 (fun x3_0 => some true) (fun r3 => some r3))
def console_bare_loop1 (k : Nat) (a0 : ConsoleCommand) (a1 : List UInt8) : Nat → ConsoleCommand → Nat → Option ConsoleCommand
  | 0, _, _ => none
  | n1 + 1, s1_0, s1_1 => bif (decide (s1_1 < a1.length)) then (Md.ifp ((a1.getD s1_1 0).toNat < 128) <| bif ((((a1.getD s1_1 0).toNat : Nat) : Int) == 116) then (console_bare_loop1 k a0 a1 n1 (⟨s1_0.Kind, a0.Topic, s1_0.Actor, s1_0.Method, s1_0.Number⟩ : ConsoleCommand) (s1_1 + 1)) else (bif ((((a1.getD s1_1 0).toNat : Nat) : Int) == 97) then (console_bare_loop1 k a0 a1 n1 (⟨s1_0.Kind, s1_0.Topic, (⟨a0.Actor.fType, s1_0.Actor.Key⟩ : Ref), s1_0.Method, s1_0.Number⟩ : ConsoleCommand) (s1_1 + 1)) else (bif ((((a1.getD s1_1 0).toNat : Nat) : Int) == 107) then (console_bare_loop1 k a0 a1 n1 (⟨s1_0.Kind, s1_0.Topic, (⟨s1_0.Actor.fType, a0.Actor.Key⟩ : Ref), s1_0.Method, s1_0.Number⟩ : ConsoleCommand) (s1_1 + 1)) else (bif ((((a1.getD s1_1 0).toNat : Nat) : Int) == 109) then (console_bare_loop1 k a0 a1 n1 (⟨s1_0.Kind, s1_0.Topic, s1_0.Actor, a0.Method, s1_0.Number⟩ : ConsoleCommand) (s1_1 + 1)) else (bif ((((a1.getD s1_1 0).toNat : Nat) : Int) == 110) then (console_bare_loop1 k a0 a1 n1 (⟨s1_0.Kind, s1_0.Topic, s1_0.Actor, s1_0.Method, a0.Number⟩ : ConsoleCommand) (s1_1 + 1)) else (console_bare_loop1 k a0 a1 n1 s1_0 (s1_1 + 1))))))) else (some s1_0)
def console_bare (k : Nat) (a0 : ConsoleCommand) (a1 : List UInt8) : Option ConsoleCommand :=
  (console_bare_loop1 k a0 a1 k (⟨a0.Kind, ([] : List UInt8), (⟨([] : List UInt8), ([] : List UInt8)⟩ : Ref), ([] : List UInt8), 0⟩ : ConsoleCommand) 0).bind fun x1_0 => some x1_0
def console_plain (k : Nat) (a0 : UInt8) : Option Bool :=
  some ((decide ((a0.toNat : Int) ≥ 32)) && (decide ((a0.toNat : Int) ≤ 126)))
def console_Quote_loop1 (k : Nat) (a0 : List UInt8) : Nat → Nat → (List UInt8) → Option (List UInt8)
  | 0, _, _ => none
  | n1 + 1, s1_0, s1_1 => bif (decide (((s1_0 : Nat) : Int) < ((a0.length : Nat) : Int))) then ((Md.ifp (s1_0 < a0.length) <| bif (((((a0.getD s1_0 0)).toNat : Int) == 34) || ((((a0.getD s1_0 0)).toNat : Int) == 92)) then (Md.ifp (s1_1.length + [(92 : UInt8), (a0.getD s1_0 0)].length ≤ 4000000) <| some (s1_1 ++ [(92 : UInt8), (a0.getD s1_0 0)])) else ((console_plain k (a0.getD s1_0 0)).bind fun x10 => bif x10 then (Md.ifp (s1_1.length + [(a0.getD s1_0 0)].length ≤ 4000000) <| some (s1_1 ++ [(a0.getD s1_0 0)])) else (Md.ifp ((Md.shr8 (a0.getD s1_0 0) 4).toNat < ([48, 49, 50, 51, 52, 53, 54, 55, 56, 57, 97, 98, 99, 100, 101, 102] : List UInt8).length) <| Md.ifp (((a0.getD s1_0 0) &&& (15 : UInt8)).toNat < ([48, 49, 50, 51, 52, 53, 54, 55, 56, 57, 97, 98, 99, 100, 101, 102] : List UInt8).length) <| Md.ifp (s1_1.length + [(92 : UInt8), (120 : UInt8), (([48, 49, 50, 51, 52, 53, 54, 55, 56, 57, 97, 98, 99, 100, 101, 102] : List UInt8).getD ((Md.shr8 (a0.getD s1_0 0) 4).toNat) 0), (([48, 49, 50, 51, 52, 53, 54, 55, 56, 57, 97, 98, 99, 100, 101, 102] : List UInt8).getD (((a0.getD s1_0 0) &&& (15 : UInt8)).toNat) 0)].length ≤ 4000000) <| some (s1_1 ++ [(92 : UInt8), (120 : UInt8), (([48, 49, 50, 51, 52, 53, 54, 55, 56, 57, 97, 98, 99, 100, 101, 102] : List UInt8).getD ((Md.shr8 (a0.getD s1_0 0) 4).toNat) 0), (([48, 49, 50, 51, 52, 53, 54, 55, 56, 57, 97, 98, 99, 100, 101, 102] : List UInt8).getD (((a0.getD s1_0 0) &&& (15 : UInt8)).toNat) 0)]))) : Option (List UInt8)).bind fun x4_0 => Md.ifp (s1_0 + 1 ≤ 9223372036854775807) <| console_Quote_loop1 k a0 n1 (s1_0 + 1) x4_0) else (some s1_1)
def console_Quote (k : Nat) (a0 : List UInt8) : Option (List UInt8) :=
  (console_Quote_loop1 k a0 k 0 [(34 : UInt8)]).bind fun x1_0 => Md.ifp (x1_0.length + [(34 : UInt8)].length ≤ 4000000) <| some (x1_0 ++ [(34 : UInt8)])
end Md
end Go.Proofs.YtjpiiejdaiaocaaDoor
