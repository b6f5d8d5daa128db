/-
  JourA: what the functions compute, as plain Lean functions (printed by wip/tools/auto.py from the functions' trees). No condition.
-/
import Derived.Test.YtkcfkcgclljncaaWireJM
namespace Go.Proofs.Ytkcfkcgclljncaa
set_option linter.unusedVariables false
namespace Md
structure JournalRecord where
  Kind : Int
  Body : List UInt8
  deriving Inhabited, DecidableEq
def JournalRecord.ok (x : JournalRecord) : Prop := Md.I64 x.Kind
def journal_ValidRecord (k : Nat) (a0 : JournalRecord) : Option Bool :=
  some (((decide (a0.Kind ≥ 1)) && (decide (a0.Kind ≤ 255))) && (decide (((a0.Body.length : Nat) : Int) ≤ 16777216)))
def journal_Append (k : Nat) (a0 : Disk) (a1 : JournalRecord) : Option (Disk × Int) :=
  (disk_Valid k a0).bind fun x1 => ((bif (!x1) then (some true) else ((journal_ValidRecord k a1).bind fun x7 => some (!x7))) : Option Bool).bind fun x2 => bif x2 then (some ((⟨([] : List UInt8), 0, false, 0, 0, false⟩ : Disk), 1)) else ((wire_Seal k a1.Kind a1.Body).bind fun x4 => bif (x4.2 != 0) then (some ((⟨([] : List UInt8), 0, false, 0, 0, false⟩ : Disk), x4.2)) else ((disk_Append k a0 x4.1).bind fun x6 => some (x6.1, x6.2)))
def actorgridref26_ValidRecord (k : Nat) (a0 : JournalRecord) : Option Bool :=
  some (((decide (a0.Kind ≥ 1)) && (decide (a0.Kind ≤ 255))) && (decide (((a0.Body.length : Nat) : Int) ≤ 16777216)))
def actorgridref26_AppendRecord (k : Nat) (a0 : Disk) (a1 : JournalRecord) : Option (Disk × Int) :=
  (actorgridref26_ValidDisk k a0).bind fun x1 => ((bif (!x1) then (some true) else ((actorgridref26_ValidRecord k a1).bind fun x6 => some (!x6))) : Option Bool).bind fun x2 => bif x2 then (some ((⟨([] : List UInt8), 0, false, 0, 0, false⟩ : Disk), 1)) else ((actorgridref1_Seal k a1.Kind a1.Body).bind fun x4 => (actorgridref26_AppendDisk k a0 x4.1).bind fun x5 => some (x5.1, x5.2))
def actorgridref26_Scan_loop1 (k : Nat) (a0 : List UInt8) : Nat → Int → (List JournalRecord) → (List Int) → Option ((List JournalRecord) × (List Int) × Int)
  | 0, _, _, _ => none
  | n1 + 1, s1_0, s1_1, s1_2 => Md.ifp (0 ≤ s1_0) <| Md.ifp ((s1_0).toNat ≤ a0.length) <| (actorgridref1_Open k (a0.drop ((s1_0).toNat))).bind fun x4 => bif (x4.2.2.2 != 0) then (some (s1_1, s1_2, s1_0)) else (Md.ifp (([] : List UInt8).length + x4.2.1.length ≤ 4000000) <| Md.ifp (s1_1.length + [(⟨x4.1, (([] : List UInt8) ++ x4.2.1)⟩ : JournalRecord)].length ≤ 4000000) <| Md.ifp (s1_2.length + [s1_0].length ≤ 4000000) <| actorgridref26_Scan_loop1 k a0 n1 (Md.W (s1_0 + x4.2.2.1)) (s1_1 ++ [(⟨x4.1, (([] : List UInt8) ++ x4.2.1)⟩ : JournalRecord)]) (s1_2 ++ [s1_0]))
def actorgridref26_Scan (k : Nat) (a0 : List UInt8) : Option ((List JournalRecord) × (List Int) × Int) :=
  (actorgridref26_Scan_loop1 k a0 k 0 ([] : List JournalRecord) ([] : List Int)).bind fun r1 => some r1
end Md
end Go.Proofs.Ytkcfkcgclljncaa
