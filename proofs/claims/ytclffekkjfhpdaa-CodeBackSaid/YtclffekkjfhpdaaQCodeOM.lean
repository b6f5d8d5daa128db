import Derived.Test.YtclffekkjfhpdaaQMo
namespace Go.Proofs.Ytclffekkjfhpdaa
set_option linter.unusedVariables false
namespace Md
def actorgridlaw20_CodeBack (k : Nat) (a0 : Code) (a1 : List UInt8) (a2 : UInt16) : Option Bool :=
  (actorgridlaw20_awake k).bind fun x1 => bif (!x1) then (some false) else ((actorgridlaw20_Small k a0).bind fun x3 => ((bif ((!x3) || (decide (((a1.length : Nat) : Int) > 100))) then (some true) else ((bytecode_Verify k a0).bind fun x20 => some (x20 == 1))) : Option Bool).bind fun x5 => bif x5 then (some true) else ((bytecode_Encode k a0).bind fun x7 => bif (((x7.length : Nat) : Int) == 0) then (some false) else (Md.ifp (([] : List UInt8).length + x7.length ≤ 4000000) <| Md.ifp ((([] : List UInt8) ++ x7).length + a1.length ≤ 4000000) <| (bytecode_Decode k ((([] : List UInt8) ++ x7) ++ a1)).bind fun x11 => Md.ifp (0 < x7.length) <| Md.ifp ((a2.toNat % x7.length) ≤ x7.length) <| (bytecode_Decode k (x7.take (a2.toNat % x7.length))).bind fun x14 => ((bif ((x11.2.2 == 0) && (x11.2.1 == ((x7.length : Nat) : Int))) then ((bytecode_Same k a0 x11.1).bind fun x19 => some x19) else (some false)) : Option Bool).bind fun x16 => some ((x16 && (x14.2.2 == 3)) && (x14.2.1 == 0)))))
end Md
end Go.Proofs.Ytclffekkjfhpdaa
