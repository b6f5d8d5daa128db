/-
  LexC: what the functions compute, as plain Lean functions (printed by wip/tools/auto.py from the functions' trees). No condition.
-/
import Derived.Test.YtjpiiejdaiaocaaDoorLexBM
namespace Go.Proofs.YtjpiiejdaiaocaaDoor
set_option linter.unusedVariables false
namespace Md
def lexer_Tokens_loop1 (k : Nat) (a0 : List UInt8) : Nat → Int → (List Token) → Option (Sum (List Token) ((List Token) × Int × Int))
  | 0, _, _ => none
  | n3 + 1, s3_0, s3_1 => bif (decide (s3_0 < ((a0.length : Nat) : Int))) then (Md.ifp (0 ≤ s3_0) <| Md.ifp ((s3_0).toNat ≤ a0.length) <| (lexer_token k (a0.drop ((s3_0).toNat))).bind fun x7 => bif (x7.2.2 != 0) then (some (Sum.inr (([] : List Token), s3_0, x7.2.2))) else (Md.ifp (s3_1.length + [(⟨x7.1.Kind, x7.1.Text, x7.1.Num, s3_0⟩ : Token)].length ≤ 4000000) <| Md.ifp (0 ≤ (Md.W (s3_0 + x7.2.1))) <| Md.ifp (((Md.W (s3_0 + x7.2.1))).toNat ≤ a0.length) <| (lexer_skip k (a0.drop (((Md.W (s3_0 + x7.2.1))).toNat))).bind fun x12 => lexer_Tokens_loop1 k a0 n3 (Md.W ((Md.W (s3_0 + x7.2.1)) + x12)) (s3_1 ++ [(⟨x7.1.Kind, x7.1.Text, x7.1.Num, s3_0⟩ : Token)]))) else (some (Sum.inl s3_1))
def lexer_Tokens (k : Nat) (a0 : List UInt8) : Option ((List Token) × Int × Int) :=
  bif (decide (((a0.length : Nat) : Int) > 6000)) then (some (([] : List Token), 0, 5)) else ((lexer_skip k a0).bind fun x2 => (lexer_Tokens_loop1 k a0 k x2 ([] : List Token)).bind fun o3 => Md.onS o3 (fun x3_0 => some (x3_0, 0, 0)) (fun r3 => some r3))
def lexer_Quote_loop1 (k : Nat) (a0 : List UInt8) : Nat → Nat → (List UInt8) → Option (List UInt8)
  | 0, _, _ => none
  | n1 + 1, s1_0, s1_1 => bif (decide (((s1_0 : Nat) : Int) < ((a0.length : Nat) : Int))) then ((Md.ifp (s1_0 < a0.length) <| (lexer_plain k (a0.getD s1_0 0)).bind fun x7 => bif x7 then (Md.ifp (s1_1.length + [(a0.getD s1_0 0)].length ≤ 4000000) <| some (s1_1 ++ [(a0.getD s1_0 0)])) else (bif (((((a0.getD s1_0 0)).toNat : Int) == 34) || ((((a0.getD s1_0 0)).toNat : Int) == 92)) then (Md.ifp (s1_1.length + [(92 : UInt8), (a0.getD s1_0 0)].length ≤ 4000000) <| some (s1_1 ++ [(92 : UInt8), (a0.getD s1_0 0)])) else (Md.ifp ((Md.shr8 (a0.getD s1_0 0) 4).toNat < ([48, 49, 50, 51, 52, 53, 54, 55, 56, 57, 97, 98, 99, 100, 101, 102] : List UInt8).length) <| Md.ifp (((a0.getD s1_0 0) &&& (15 : UInt8)).toNat < ([48, 49, 50, 51, 52, 53, 54, 55, 56, 57, 97, 98, 99, 100, 101, 102] : List UInt8).length) <| Md.ifp (s1_1.length + [(92 : UInt8), (120 : UInt8), (([48, 49, 50, 51, 52, 53, 54, 55, 56, 57, 97, 98, 99, 100, 101, 102] : List UInt8).getD ((Md.shr8 (a0.getD s1_0 0) 4).toNat) 0), (([48, 49, 50, 51, 52, 53, 54, 55, 56, 57, 97, 98, 99, 100, 101, 102] : List UInt8).getD (((a0.getD s1_0 0) &&& (15 : UInt8)).toNat) 0)].length ≤ 4000000) <| some (s1_1 ++ [(92 : UInt8), (120 : UInt8), (([48, 49, 50, 51, 52, 53, 54, 55, 56, 57, 97, 98, 99, 100, 101, 102] : List UInt8).getD ((Md.shr8 (a0.getD s1_0 0) 4).toNat) 0), (([48, 49, 50, 51, 52, 53, 54, 55, 56, 57, 97, 98, 99, 100, 101, 102] : List UInt8).getD (((a0.getD s1_0 0) &&& (15 : UInt8)).toNat) 0)]))) : Option (List UInt8)).bind fun x4_0 => Md.ifp (s1_0 + 1 ≤ 9223372036854775807) <| lexer_Quote_loop1 k a0 n1 (s1_0 + 1) x4_0) else (some s1_1)
def lexer_Quote (k : Nat) (a0 : List UInt8) : Option (List UInt8) :=
  (lexer_Quote_loop1 k a0 k 0 [(34 : UInt8)]).bind fun x1_0 => Md.ifp (x1_0.length + [(34 : UInt8)].length ≤ 4000000) <| some (x1_0 ++ [(34 : UInt8)])
def lexer_IsName (k : Nat) (a0 : List UInt8) : Option Bool :=
  ((bif ((!(decide (a0 = ([] : List UInt8)))) && (decide (((a0.length : Nat) : Int) ≤ 32))) then ((lexer_word k a0).bind fun x5 => some (x5 == ((a0.length : Nat) : Int))) else (some false)) : Option Bool).bind fun x2 => ((bif x2 then ((lexer_IsKeyword k a0).bind fun x4 => some (!x4)) else (some false)) : Option Bool).bind fun x3 => some x3
end Md
end Go.Proofs.YtjpiiejdaiaocaaDoor
