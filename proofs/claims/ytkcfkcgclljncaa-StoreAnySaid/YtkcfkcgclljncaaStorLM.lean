/-
  StorL: what the functions compute, as plain Lean functions (printed by wip/tools/auto.py from the functions' trees). No condition.
-/
import Derived.Test.YtkcfkcgclljncaaStorBM
import Derived.Test.YtkcfkcgclljncaaStorKM
namespace Go.Proofs.Ytkcfkcgclljncaa
set_option linter.unusedVariables false
namespace Md
def actorgridlaw28_StoreAny (k : Nat) (a0 : Store) (a1 : List UInt8) (a2 : Int) : Option Bool :=
  (actorgridlaw28_awake k).bind fun x1 => bif (!x1) then (some false) else (bif (((decide (((a0.Disks.x0.Data.length : Nat) : Int) > 2000)) || (decide (((a0.Disks.x1.Data.length : Nat) : Int) > 2000))) || (decide (((a1.length : Nat) : Int) > 2000))) then (some true) else ((store_Put k a0 a1).bind fun x6 => (actorgridref26_Put k a0 a1).bind fun x7 => (store_Checkpoint k a0 a1).bind fun x8 => (actorgridref26_Checkpoint k a0 a1).bind fun x9 => (store_Recover k a0.Disks.x0 a0.Disks.x1).bind fun x10 => (actorgridref26_RecoverStore k a0.Disks.x0 a0.Disks.x1).bind fun x11 => (store_New k a2).bind fun x12 => (actorgridref26_NewStore k a2).bind fun x13 => (actorgridlaw28_same k x6.1 x6.2 x7.1 x7.2).bind fun x14 => bif x14 then ((actorgridlaw28_same k x8.1 x8.2 x9.1 x9.2).bind fun x16 => bif x16 then ((actorgridlaw28_same k x10.1 x10.2.2 x11.1 x11.2.2).bind fun x18 => bif x18 then ((actorgridref26_SameContents k x10.2.1 x11.2.1).bind fun x20 => bif x20 then ((actorgridlaw28_same k x12.1 x12.2 x13.1 x13.2).bind fun x22 => bif x22 then ((store_Valid k a0).bind fun x24 => (actorgridref26_ValidStore k a0).bind fun x25 => some (x24 == x25)) else (some false)) else (some false)) else (some false)) else (some false)) else (some false)))
end Md
end Go.Proofs.Ytkcfkcgclljncaa
