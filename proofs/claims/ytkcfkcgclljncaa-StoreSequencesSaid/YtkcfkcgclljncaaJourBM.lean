/-
  JourB: what the functions compute, as plain Lean functions (printed by wip/tools/auto.py from the functions' trees). No condition.
-/
import Derived.Test.YtkcfkcgclljncaaJourAM
import Derived.Test.YtkcfkcgclljncaaJourWM
namespace Go.Proofs.Ytkcfkcgclljncaa
set_option linter.unusedVariables false
namespace Md
def journal_Scan_loop1 (k : Nat) (a0 : List UInt8) : List (Int × JournalRecord) → Int → (List JournalRecord) → Option (Int × (List JournalRecord))
  | [], s2_0, s2_1 => some (s2_0, s2_1)
  | y2 :: ys2, s2_0, s2_1 => Md.ifp (0 ≤ y2.1) <| Md.ifp ((y2.1).toNat ≤ a0.length) <| (wire_Open k (a0.drop ((y2.1).toNat))).bind fun x5 => Md.ifp (s2_1.length + [y2.2].length ≤ 4000000) <| journal_Scan_loop1 k a0 ys2 (Md.W (y2.1 + x5.2.2.1)) (s2_1 ++ [y2.2])
def journal_Scan (k : Nat) (a0 : List UInt8) : Option ((List JournalRecord) × Int) :=
  (journal_Walk_1 k a0).bind fun x1 => (journal_Scan_loop1 k a0 x1 0 ([] : List JournalRecord)).bind fun x2_0 => some (x2_0.2, x2_0.1)
end Md
end Go.Proofs.Ytkcfkcgclljncaa
