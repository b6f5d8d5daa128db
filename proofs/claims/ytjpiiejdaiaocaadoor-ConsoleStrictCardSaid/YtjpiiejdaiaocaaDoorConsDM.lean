/-
  ConsD: what the functions compute, as plain Lean functions (printed by wip/tools/auto.py from the functions' trees). No condition.
-/
import Derived.Test.YtjpiiejdaiaocaaDoorConsCM
namespace Go.Proofs.YtjpiiejdaiaocaaDoor
set_option linter.unusedVariables false
namespace Md
def actorgridlaw41_awake (k : Nat) : Option Bool :=
  (console_Format k (⟨3, ([] : List UInt8), (⟨([65, 99, 99, 111, 117, 110, 116] : List UInt8), ([97, 32, 98] : List UInt8)⟩ : Ref), ([] : List UInt8), 3⟩ : ConsoleCommand)).bind fun x1 => (console_Parse k x1).bind fun x2 => (console_Parse k ([109, 111, 118, 101, 32, 65, 99, 99, 111, 117, 110, 116, 32, 34, 97, 32, 98, 34] : List UInt8)).bind fun x3 => ((bif ((((((decide (x1 = ([109, 111, 118, 101, 32, 65, 99, 99, 111, 117, 110, 116, 32, 34, 97, 32, 98, 34, 32, 51] : List UInt8))) && (x2.2.2 == 0)) && (decide (x2.1 = (⟨3, ([] : List UInt8), (⟨([65, 99, 99, 111, 117, 110, 116] : List UInt8), ([97, 32, 98] : List UInt8)⟩ : Ref), ([] : List UInt8), 3⟩ : ConsoleCommand)))) && (x2.2.1 == ((x1.length : Nat) : Int))) && (x3.2.2 == 2)) && (x3.2.1 == 18)) then ((console_Valid k (⟨3, ([] : List UInt8), (⟨([65, 99, 99, 111, 117, 110, 116] : List UInt8), ([97, 32, 98] : List UInt8)⟩ : Ref), ([] : List UInt8), 3⟩ : ConsoleCommand)).bind fun x14 => some x14) else (some false)) : Option Bool).bind fun x9 => ((bif x9 then ((console_Name k ([97, 95, 49] : List UInt8)).bind fun x13 => some x13) else (some false)) : Option Bool).bind fun x10 => ((bif x10 then ((console_Quote k ([1] : List UInt8)).bind fun x12 => some (decide (x12 = ([34, 92, 120, 48, 49, 34] : List UInt8)))) else (some false)) : Option Bool).bind fun x11 => some x11
end Md
end Go.Proofs.YtjpiiejdaiaocaaDoor
