/-
  StorK: what the functions compute, as plain Lean functions (printed by wip/tools/auto.py from the functions' trees). No condition.
-/
import Derived.Test.YtkcfkcgclljncaaStorCM
namespace Go.Proofs.Ytkcfkcgclljncaa
set_option linter.unusedVariables false
namespace Md
def actorgridlaw28_awake (k : Nat) : Option Bool :=
  (store_New k 1000).bind fun x1 => bif (x1.2 != 0) then (some false) else ((store_Put k x1.1 [(97 : UInt8)]).bind fun x3 => bif (x3.2 != 0) then (some false) else ((store_Checkpoint k x3.1 [(83 : UInt8)]).bind fun x5 => bif (x5.2 != 0) then (some false) else ((store_Put k x5.1 [(98 : UInt8)]).bind fun x7 => ((bif (x7.2 != 0) then (some true) else ((store_Valid k x7.1).bind fun x16 => some (!x16))) : Option Bool).bind fun x8 => bif x8 then (some false) else ((store_Recover k x7.1.Disks.x0 x7.1.Disks.x1).bind fun x10 => ((bif ((((x10.2.2 == 0) && (x10.2.1.Base == 1)) && (decide (x10.2.1.State = [83]))) && (((x10.2.1.Entries.length : Nat) : Int) == 1)) then (Md.ifp (0 < x10.2.1.Entries.length) <| some (decide ((x10.2.1.Entries.getD 0 default) = [98]))) else (some false)) : Option Bool).bind fun x14 => some x14))))
end Md
end Go.Proofs.Ytkcfkcgclljncaa
