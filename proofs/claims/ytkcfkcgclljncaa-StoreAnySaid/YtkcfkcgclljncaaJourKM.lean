/-
  JourK: what the functions compute, as plain Lean functions (printed by wip/tools/auto.py from the functions' trees). No condition.
-/
import Derived.Test.YtkcfkcgclljncaaJourBM
namespace Go.Proofs.Ytkcfkcgclljncaa
set_option linter.unusedVariables false
namespace Md
def actorgridlaw27_awake_loop1 (k : Nat) : List (Int × JournalRecord) → Nat → Option (Sum Nat Bool)
  | [], s7_0 => some (Sum.inl s7_0)
  | y7 :: ys7, s7_0 => bif ((y7.1 != 0) || (y7.2.Kind != 7)) then (some (Sum.inr false)) else (Md.ifp (s7_0 + 1 ≤ 9223372036854775807) <| actorgridlaw27_awake_loop1 k ys7 (s7_0 + 1))
def actorgridlaw27_awake (k : Nat) : Option Bool :=
  (disk_New k 100).bind fun x1 => bif (x1.2 != 0) then (some false) else ((journal_Append k x1.1 (⟨7, [(120 : UInt8)]⟩ : JournalRecord)).bind fun x3 => bif (x3.2 != 0) then (some false) else ((journal_Recover k x3.1).bind fun x5 => (journal_Walk_1 k x3.1.Data).bind fun x6 => (actorgridlaw27_awake_loop1 k x6 0).bind fun o7 => Md.onS o7 (fun x7_0 => ((bif ((x5.2.2 == 0) && (((x5.1.length : Nat) : Int) == 1)) then (Md.ifp (0 < x5.1.length) <| some (((x5.1.getD 0 default).Kind) == 7)) else (some false)) : Option Bool).bind fun x12 => ((bif x12 then (Md.ifp (0 < x5.1.length) <| some (decide (((x5.1.getD 0 default).Body) = [120]))) else (some false)) : Option Bool).bind fun x13 => some (x13 && (((x7_0 : Nat) : Int) == 1))) (fun r7 => some r7)))
end Md
end Go.Proofs.Ytkcfkcgclljncaa
