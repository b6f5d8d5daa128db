/-
  LexL: what the functions compute, as plain Lean functions (printed by wip/tools/auto.py from the functions' trees). No condition.
-/
import Derived.Test.YtjpiiejdaiaocaaDoorLexEM
namespace Go.Proofs.YtjpiiejdaiaocaaDoor
set_option linter.unusedVariables false
namespace Md
def actorgridlaw17_LexTells (k : Nat) (a0 : List UInt8) (a1 : List UInt8) : Option Bool :=
  (actorgridlaw17_awake k).bind fun x1 => bif (!x1) then (some false) else (bif ((decide (((a0.length : Nat) : Int) > 8000)) || (decide (((a1.length : Nat) : Int) > 1000))) then (some true) else ((lexer_Tokens k a0).bind fun x5 => (actorgridref17_Tokens k a0).bind fun x6 => (actorgridref17_Same k x5.1 x6.1).bind fun x7 => ((bif ((x7 && (x5.2.1 == x6.2.1)) && (x5.2.2 == x6.2.2)) then ((lexer_IsName k a1).bind fun x17 => (actorgridref17_IsName k a1).bind fun x18 => some (x17 == x18)) else (some false)) : Option Bool).bind fun x10 => ((bif x10 then ((lexer_IsKeyword k a1).bind fun x15 => (actorgridref17_IsKeyword k a1).bind fun x16 => some (x15 == x16)) else (some false)) : Option Bool).bind fun x11 => ((bif x11 then ((lexer_Quote k a1).bind fun x13 => (actorgridref17_Quote k a1).bind fun x14 => some (decide (x13 = x14))) else (some false)) : Option Bool).bind fun x12 => some x12))
end Md
end Go.Proofs.YtjpiiejdaiaocaaDoor
