/-
  LexA: what the functions compute, as plain Lean functions (printed by wip/tools/auto.py from the functions' trees). No condition.
-/
import Derived.Test.YtjpiiejdaiaocaaDoorLixM
namespace Go.Proofs.YtjpiiejdaiaocaaDoor
set_option linter.unusedVariables false
namespace Md
def lexer_letter (k : Nat) (a0 : UInt8) : Option Bool :=
  some ((((decide ((a0.toNat : Int) ≥ 97)) && (decide ((a0.toNat : Int) ≤ 122))) || ((decide ((a0.toNat : Int) ≥ 65)) && (decide ((a0.toNat : Int) ≤ 90)))) || ((a0.toNat : Int) == 95))
def lexer_digit (k : Nat) (a0 : UInt8) : Option Bool :=
  some ((decide ((a0.toNat : Int) ≥ 48)) && (decide ((a0.toNat : Int) ≤ 57)))
def lexer_plain (k : Nat) (a0 : UInt8) : Option Bool :=
  some ((((decide ((a0.toNat : Int) ≥ 32)) && (decide ((a0.toNat : Int) ≤ 126))) && ((a0.toNat : Int) != 34)) && ((a0.toNat : Int) != 92))
def lexer_skip_1 (k : Nat) (a0 : UInt8) : Option Bool :=
  some ((a0.toNat : Int) != 10)
def lexer_word_1 (k : Nat) (a0 : UInt8) : Option Bool :=
  (lexer_letter k a0).bind fun x1 => ((bif x1 then (some true) else ((lexer_digit k a0).bind fun x3 => some x3)) : Option Bool).bind fun x2 => some x2
def lexer_run__lexer_skip_1_loop1 (k : Nat) (a0 : List UInt8) : Nat → Nat → Option Nat
  | 0, _ => none
  | n1 + 1, s1_0 => ((bif (decide (((s1_0 : Nat) : Int) < ((a0.length : Nat) : Int))) then (Md.ifp (s1_0 < a0.length) <| (lexer_skip_1 k (a0.getD s1_0 0)).bind fun x6 => some x6) else (some false)) : Option Bool).bind fun x2 => bif x2 then (Md.ifp (s1_0 + 1 ≤ 9223372036854775807) <| lexer_run__lexer_skip_1_loop1 k a0 n1 (s1_0 + 1)) else (some s1_0)
def lexer_run__lexer_skip_1 (k : Nat) (a0 : List UInt8) : Option Int :=
  (lexer_run__lexer_skip_1_loop1 k a0 k 0).bind fun x1_0 => some ((x1_0 : Nat) : Int)
def lexer_run__lexer_word_1_loop1 (k : Nat) (a0 : List UInt8) : Nat → Nat → Option Nat
  | 0, _ => none
  | n1 + 1, s1_0 => ((bif (decide (((s1_0 : Nat) : Int) < ((a0.length : Nat) : Int))) then (Md.ifp (s1_0 < a0.length) <| (lexer_word_1 k (a0.getD s1_0 0)).bind fun x6 => some x6) else (some false)) : Option Bool).bind fun x2 => bif x2 then (Md.ifp (s1_0 + 1 ≤ 9223372036854775807) <| lexer_run__lexer_word_1_loop1 k a0 n1 (s1_0 + 1)) else (some s1_0)
def lexer_run__lexer_word_1 (k : Nat) (a0 : List UInt8) : Option Int :=
  (lexer_run__lexer_word_1_loop1 k a0 k 0).bind fun x1_0 => some ((x1_0 : Nat) : Int)
def lexer_run__lexer_digit_loop1 (k : Nat) (a0 : List UInt8) : Nat → Nat → Option Nat
  | 0, _ => none
  | n1 + 1, s1_0 => ((bif (decide (((s1_0 : Nat) : Int) < ((a0.length : Nat) : Int))) then (Md.ifp (s1_0 < a0.length) <| (lexer_digit k (a0.getD s1_0 0)).bind fun x6 => some x6) else (some false)) : Option Bool).bind fun x2 => bif x2 then (Md.ifp (s1_0 + 1 ≤ 9223372036854775807) <| lexer_run__lexer_digit_loop1 k a0 n1 (s1_0 + 1)) else (some s1_0)
def lexer_run__lexer_digit (k : Nat) (a0 : List UInt8) : Option Int :=
  (lexer_run__lexer_digit_loop1 k a0 k 0).bind fun x1_0 => some ((x1_0 : Nat) : Int)
def lexer_skip_loop1 (k : Nat) (a0 : List UInt8) : Nat → Int → Option (Sum Int Int)
  | 0, _ => none
  | n1 + 1, s1_0 => bif (decide (s1_0 < ((a0.length : Nat) : Int))) then (Md.ifp (0 ≤ s1_0 ∧ s1_0 < ((a0.length : Nat) : Int)) <| (strings_IndexByte k ([32, 9, 10, 13] : List UInt8) (a0.getD ((s1_0).toNat) 0)).bind fun x4 => bif (decide (x4 ≥ 0)) then (lexer_skip_loop1 k a0 n1 (Md.W (s1_0 + 1))) else (Md.ifp (0 ≤ s1_0) <| Md.ifp ((s1_0).toNat ≤ a0.length) <| (strings_HasPrefix k (a0.drop ((s1_0).toNat)) ([47, 47] : List UInt8)).bind fun x8 => bif x8 then (Md.ifp (0 ≤ s1_0) <| Md.ifp ((s1_0).toNat ≤ a0.length) <| (lexer_run__lexer_skip_1 k (a0.drop ((s1_0).toNat))).bind fun x12 => lexer_skip_loop1 k a0 n1 (Md.W (s1_0 + x12))) else (some (Sum.inr s1_0)))) else (some (Sum.inl s1_0))
def lexer_skip (k : Nat) (a0 : List UInt8) : Option Int :=
  (lexer_skip_loop1 k a0 k 0).bind fun o1 => Md.onS o1 (fun x1_0 => some x1_0) (fun r1 => some r1)
def lexer_word (k : Nat) (a0 : List UInt8) : Option Int :=
  ((bif (decide (a0 = ([] : List UInt8))) then (some true) else (Md.ifp (0 < a0.length) <| (lexer_letter k (a0.getD 0 0)).bind fun x5 => some (!x5))) : Option Bool).bind fun x1 => bif x1 then (some 0) else ((lexer_run__lexer_word_1 k a0).bind fun x3 => some x3)
def lexer_IsKeyword (k : Nat) (a0 : List UInt8) : Option Bool :=
  bif (decide (a0 = ([97, 99, 116, 111, 114] : List UInt8))) then (some true) else (bif (decide (a0 = ([115, 116, 97, 116, 101] : List UInt8))) then (some true) else (bif (decide (a0 = ([109, 101, 116, 104, 111, 100] : List UInt8))) then (some true) else (bif (decide (a0 = ([108, 101, 116] : List UInt8))) then (some true) else (bif (decide (a0 = ([105, 102] : List UInt8))) then (some true) else (bif (decide (a0 = ([101, 108, 115, 101] : List UInt8))) then (some true) else (bif (decide (a0 = ([119, 104, 105, 108, 101] : List UInt8))) then (some true) else (bif (decide (a0 = ([114, 101, 116, 117, 114, 110] : List UInt8))) then (some true) else (bif (decide (a0 = ([102, 97, 105, 108] : List UInt8))) then (some true) else (bif (decide (a0 = ([99, 97, 108, 108] : List UInt8))) then (some true) else (bif (decide (a0 = ([101, 109, 105, 116] : List UInt8))) then (some true) else (bif (decide (a0 = ([114, 101, 109, 105, 110, 100] : List UInt8))) then (some true) else (bif (decide (a0 = ([99, 97, 110, 99, 101, 108] : List UInt8))) then (some true) else (bif (decide (a0 = ([115, 101, 108, 102] : List UInt8))) then (some true) else (bif (decide (a0 = ([116, 114, 117, 101] : List UInt8))) then (some true) else (bif (decide (a0 = ([102, 97, 108, 115, 101] : List UInt8))) then (some true) else (bif (decide (a0 = ([105, 110, 116] : List UInt8))) then (some true) else (bif (decide (a0 = ([98, 111, 111, 108] : List UInt8))) then (some true) else (bif (decide (a0 = ([115, 116, 114, 105, 110, 103] : List UInt8))) then (some true) else (bif (decide (a0 = ([105, 110, 116, 115] : List UInt8))) then (some true) else (bif (decide (a0 = ([115, 116, 114, 105, 110, 103, 115] : List UInt8))) then (some true) else (some false)))))))))))))))))))))
end Md
end Go.Proofs.YtjpiiejdaiaocaaDoor
