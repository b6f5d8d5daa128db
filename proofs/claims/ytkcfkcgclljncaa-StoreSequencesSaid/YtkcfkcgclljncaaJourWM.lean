/-
  JourW: what journal.Walk's iterator yields, as a plain Lean function. No condition.
-/
import Derived.Test.YtkcfkcgclljncaaWireJM
import Derived.Test.YtkcfkcgclljncaaJourAM
namespace Go.Proofs.Ytkcfkcgclljncaa
namespace Md
def journal_Walk_1_loop (k : Nat) (a0 : List UInt8) : Nat → Int → Option (List (Int × JournalRecord))
  | 0, _ => none
  | n + 1, p => Md.ifp (0 ≤ p) <| Md.ifp (p.toNat ≤ a0.length) <| (wire_Open k (a0.drop p.toNat)).bind fun x => bif (x.2.2.2 != 0) then some [] else (journal_Walk_1_loop k a0 n (Md.W (p + x.2.2.1))).bind fun r => some ((p, (⟨x.1, x.2.1⟩ : JournalRecord)) :: r)
def journal_Walk_1 (k : Nat) (a0 : List UInt8) : Option (List (Int × JournalRecord)) := journal_Walk_1_loop k a0 k 0
end Md
end Go.Proofs.Ytkcfkcgclljncaa
