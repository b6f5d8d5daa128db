/-
  LexB: what the functions compute, as plain Lean functions (printed by wip/tools/auto.py from the functions' trees). No condition.
-/
import Derived.Test.YtjpiiejdaiaocaaDoorLexAM
namespace Go.Proofs.YtjpiiejdaiaocaaDoor
set_option linter.unusedVariables false
namespace Md
structure Token where
  Kind : Int
  Text : List UInt8
  Num : Int
  At : Int
  deriving Inhabited, DecidableEq
def Token.ok (x : Token) : Prop := Md.I64 x.Kind ∧ x.Text.length ≤ 9223372036854775807 ∧ Md.I64 x.Num ∧ Md.I64 x.At
structure Arr6Str where
  x0 : List UInt8
  x1 : List UInt8
  x2 : List UInt8
  x3 : List UInt8
  x4 : List UInt8
  x5 : List UInt8
  deriving Inhabited, DecidableEq
def Arr6Str.get (x : Arr6Str) (i : Int) : List UInt8 := if i = 0 then x.x0 else if i = 1 then x.x1 else if i = 2 then x.x2 else if i = 3 then x.x3 else if i = 4 then x.x4 else x.x5
def Arr6Str.ok (x : Arr6Str) : Prop := x.x0.length ≤ 9223372036854775807 ∧ x.x1.length ≤ 9223372036854775807 ∧ x.x2.length ≤ 9223372036854775807 ∧ x.x3.length ≤ 9223372036854775807 ∧ x.x4.length ≤ 9223372036854775807 ∧ x.x5.length ≤ 9223372036854775807
def lexer_number (k : Nat) (a0 : List UInt8) : Option (Token × Int × Int) :=
  (lexer_run__lexer_digit k a0).bind fun x1 => Md.ifp (0 ≤ x1) <| Md.ifp ((x1).toNat ≤ a0.length) <| (strconv_ParseInt k (a0.take ((x1).toNat)) 10 64).bind fun x4 => ((bif x4.2 then (some true) else (((bif (decide (x1 > 1)) then (Md.ifp (0 < a0.length) <| some ((((a0.getD 0 0)).toNat : Int) == 48)) else (some false)) : Option Bool).bind fun x9 => some x9)) : Option Bool).bind fun x5 => bif x5 then (some ((⟨0, ([] : List UInt8), 0, 0⟩ : Token), 0, 13)) else (Md.ifp (0 ≤ x1) <| Md.ifp ((x1).toNat ≤ a0.length) <| some ((⟨3, (a0.take ((x1).toNat)), x4.1, 0⟩ : Token), x1, 0))
def lexer_nibble (k : Nat) (a0 : UInt8) : Option Int :=
  (lexer_digit k a0).bind fun x1 => bif x1 then (some (((a0 - (48 : UInt8)).toNat : Nat) : Int)) else (bif ((decide ((a0.toNat : Int) ≥ 97)) && (decide ((a0.toNat : Int) ≤ 102))) then (Md.ifp (((a0 - (97 : UInt8)).toNat) + 10 ≤ 9223372036854775807) <| some (((((a0 - (97 : UInt8)).toNat) + 10) : Nat) : Int)) else (some (-1)))
def lexer_escape (k : Nat) (a0 : List UInt8) : Option (UInt8 × Int) :=
  ((bif (decide (((a0.length : Nat) : Int) ≥ 2)) then (Md.ifp (1 < a0.length) <| ((bif ((((a0.getD 1 0)).toNat : Int) == 34) then (some true) else (Md.ifp (1 < a0.length) <| some ((((a0.getD 1 0)).toNat : Int) == 92))) : Option Bool).bind fun x18 => some x18) else (some false)) : Option Bool).bind fun x1 => bif x1 then (Md.ifp (1 < a0.length) <| some ((a0.getD 1 0), 2)) else (((bif (decide (((a0.length : Nat) : Int) < 4)) then (some true) else (Md.ifp (1 < a0.length) <| some ((((a0.getD 1 0)).toNat : Int) != 120))) : Option Bool).bind fun x4 => ((bif x4 then (some true) else (Md.ifp (2 < a0.length) <| (lexer_nibble k (a0.getD 2 0)).bind fun x15 => some (decide (x15 < 0)))) : Option Bool).bind fun x5 => ((bif x5 then (some true) else (Md.ifp (3 < a0.length) <| (lexer_nibble k (a0.getD 3 0)).bind fun x13 => some (decide (x13 < 0)))) : Option Bool).bind fun x6 => bif x6 then (some ((0 : UInt8), 0)) else (Md.ifp (2 < a0.length) <| (lexer_nibble k (a0.getD 2 0)).bind fun x9 => Md.ifp (3 < a0.length) <| (lexer_nibble k (a0.getD 3 0)).bind fun x11 => some ((UInt8.ofInt (Md.ior (Md.ishl x9 4) x11)), 4)))
def lexer_text_loop1 (k : Nat) (a0 : List UInt8) : Nat → Int → (List UInt8) → Option (Sum Unit (Token × Int × Int))
  | 0, _, _ => none
  | n1 + 1, s1_0, s1_1 => bif (decide (s1_0 < ((a0.length : Nat) : Int))) then (Md.ifp (0 ≤ s1_0 ∧ s1_0 < ((a0.length : Nat) : Int)) <| (lexer_plain k (a0.getD ((s1_0).toNat) 0)).bind fun x4 => bif x4 then (Md.ifp (s1_1.length + [(a0.getD ((s1_0).toNat) 0)].length ≤ 4000000) <| lexer_text_loop1 k a0 n1 (Md.W (s1_0 + 1)) (s1_1 ++ [(a0.getD ((s1_0).toNat) 0)])) else (bif ((((a0.getD ((s1_0).toNat) 0)).toNat : Int) == 34) then (bif (decide (((s1_1.length : Nat) : Int) > 64)) then (some (Sum.inr ((⟨0, ([] : List UInt8), 0, 0⟩ : Token), 0, 5))) else (some (Sum.inr ((⟨4, s1_1, 0, 0⟩ : Token), (Md.W (s1_0 + 1)), 0)))) else (bif ((((a0.getD ((s1_0).toNat) 0)).toNat : Int) == 92) then (Md.ifp (0 ≤ s1_0) <| Md.ifp ((s1_0).toNat ≤ a0.length) <| (lexer_escape k (a0.drop ((s1_0).toNat))).bind fun x12 => bif (x12.2 == 0) then (some (Sum.inr ((⟨0, ([] : List UInt8), 0, 0⟩ : Token), 0, 13))) else (Md.ifp (s1_1.length + [x12.1].length ≤ 4000000) <| lexer_text_loop1 k a0 n1 (Md.W (s1_0 + x12.2)) (s1_1 ++ [x12.1]))) else (some (Sum.inr ((⟨0, ([] : List UInt8), 0, 0⟩ : Token), 0, 13)))))) else (some (Sum.inl ()))
def lexer_text (k : Nat) (a0 : List UInt8) : Option (Token × Int × Int) :=
  (lexer_text_loop1 k a0 k 1 ([] : List UInt8)).bind fun o1 => Md.onS o1 (fun x1_0 => some ((⟨0, ([] : List UInt8), 0, 0⟩ : Token), 0, 13)) (fun r1 => some r1)
def lexer_symbol_loop1 (k : Nat) (a0 : List UInt8) : Nat → Nat → Option (Sum Unit Int)
  | 0, _ => none
  | n1 + 1, s1_0 => bif (decide (((s1_0 : Nat) : Int) < 6)) then (Md.ifp (s1_0 < 6) <| (strings_HasPrefix k a0 ((⟨([61, 61] : List UInt8), ([33, 61] : List UInt8), ([60, 61] : List UInt8), ([62, 61] : List UInt8), ([38, 38] : List UInt8), ([124, 124] : List UInt8)⟩ : Arr6Str).get ((s1_0 : Nat) : Int))).bind fun x8 => bif x8 then (some (Sum.inr 2)) else (Md.ifp (s1_0 + 1 ≤ 9223372036854775807) <| lexer_symbol_loop1 k a0 n1 (s1_0 + 1))) else (some (Sum.inl ()))
def lexer_symbol (k : Nat) (a0 : List UInt8) : Option Int :=
  (lexer_symbol_loop1 k a0 k 0).bind fun o1 => Md.onS o1 (fun x1_0 => ((bif (!(decide (a0 = ([] : List UInt8)))) then (Md.ifp (0 < a0.length) <| (strings_IndexByte k ([123, 125, 40, 41, 91, 93, 44, 59, 58, 46, 61, 60, 62, 43, 45, 42, 47, 37, 33] : List UInt8) (a0.getD 0 0)).bind fun x5 => some (decide (x5 ≥ 0))) else (some false)) : Option Bool).bind fun x2 => bif x2 then (some 1) else (some 0)) (fun r1 => some r1)
def lexer_token (k : Nat) (a0 : List UInt8) : Option (Token × Int × Int) :=
  (lexer_word k a0).bind fun x1 => bif (decide (x1 > 0)) then (bif (decide (x1 > 32)) then (some ((⟨0, ([] : List UInt8), 0, 0⟩ : Token), 0, 5)) else (Md.ifp (0 ≤ x1) <| Md.ifp ((x1).toNat ≤ a0.length) <| (lexer_IsKeyword k (a0.take ((x1).toNat))).bind fun x6 => bif x6 then (Md.ifp (0 ≤ x1) <| Md.ifp ((x1).toNat ≤ a0.length) <| some ((⟨2, (a0.take ((x1).toNat)), 0, 0⟩ : Token), x1, 0)) else (Md.ifp (0 ≤ x1) <| Md.ifp ((x1).toNat ≤ a0.length) <| some ((⟨1, (a0.take ((x1).toNat)), 0, 0⟩ : Token), x1, 0)))) else (Md.ifp (0 < a0.length) <| (lexer_digit k (a0.getD 0 0)).bind fun x13 => bif x13 then ((lexer_number k a0).bind fun x15 => some (x15.1, x15.2.1, x15.2.2)) else (Md.ifp (0 < a0.length) <| bif ((((a0.getD 0 0)).toNat : Int) == 34) then ((lexer_text k a0).bind fun x18 => some (x18.1, x18.2.1, x18.2.2)) else ((lexer_symbol k a0).bind fun x19 => bif (x19 == 0) then (some ((⟨0, ([] : List UInt8), 0, 0⟩ : Token), 0, 13)) else (Md.ifp (0 ≤ x19) <| Md.ifp ((x19).toNat ≤ a0.length) <| some ((⟨5, (a0.take ((x19).toNat)), 0, 0⟩ : Token), x19, 0)))))
end Md
end Go.Proofs.YtjpiiejdaiaocaaDoor
