/-
  LexD: what the functions compute, as plain Lean functions (printed by wip/tools/auto.py from the functions' trees). No condition.
-/
import Derived.Test.YtjpiiejdaiaocaaDoorLexCM
namespace Go.Proofs.YtjpiiejdaiaocaaDoor
set_option linter.unusedVariables false
namespace Md
def actorgridlaw17_awake (k : Nat) : Option Bool :=
  (lexer_Tokens k ([120, 32, 60, 61, 32, 49, 48, 59, 32, 47, 47, 32, 101, 110, 100] : List UInt8)).bind fun x1 => (lexer_Tokens k ([97, 32, 48, 48, 55] : List UInt8)).bind fun x2 => ((bif (((x1.2.2 == 0) && (x1.2.1 == 0)) && (((x1.1.length : Nat) : Int) == 4)) then (Md.ifp (0 < x1.1.length) <| some (((x1.1.getD 0 default).Kind) == 1)) else (some false)) : Option Bool).bind fun x5 => ((bif x5 then (Md.ifp (1 < x1.1.length) <| some (decide (((x1.1.getD 1 default).Text) = ([60, 61] : List UInt8)))) else (some false)) : Option Bool).bind fun x6 => ((bif x6 then (Md.ifp (2 < x1.1.length) <| some (((x1.1.getD 2 default).Num) == 10)) else (some false)) : Option Bool).bind fun x7 => ((bif x7 then (Md.ifp (3 < x1.1.length) <| some (((x1.1.getD 3 default).At) == 7)) else (some false)) : Option Bool).bind fun x8 => ((bif ((x8 && (x2.2.2 == 13)) && (x2.2.1 == 2)) then ((lexer_Quote k ([10, 34] : List UInt8)).bind fun x18 => some (decide (x18 = ([34, 92, 120, 48, 97, 92, 34, 34] : List UInt8)))) else (some false)) : Option Bool).bind fun x11 => ((bif x11 then ((lexer_IsKeyword k ([108, 101, 116] : List UInt8)).bind fun x17 => some x17) else (some false)) : Option Bool).bind fun x12 => ((bif x12 then ((lexer_IsName k ([95, 120, 57] : List UInt8)).bind fun x16 => some x16) else (some false)) : Option Bool).bind fun x13 => ((bif x13 then ((lexer_IsName k ([57, 120] : List UInt8)).bind fun x15 => some (!x15)) else (some false)) : Option Bool).bind fun x14 => some x14
end Md
end Go.Proofs.YtjpiiejdaiaocaaDoor
