/-
  JourA: what the functions compute, as plain Lean functions (printed by wip/tools/auto.py from the functions' trees). No condition.
-/
import Derived.Test.YtkcfkcgclljncaaWireJM
namespace Go.Proofs.Ytkcfkcgclljncaa
set_option linter.unusedVariables false
namespace Md
structure JournalRecord where
  Kind : Int
  Body : List UInt8
  deriving Inhabited, DecidableEq
def JournalRecord.ok (x : JournalRecord) : Prop := Md.I64 x.Kind
def journal_ValidRecord (k : Nat) (a0 : JournalRecord) : Option Bool :=
  some (((decide (a0.Kind ≥ 1)) && (decide (a0.Kind ≤ 255))) && (decide (((a0.Body.length : Nat) : Int) ≤ 16777216)))
def journal_Append (k : Nat) (a0 : Disk) (a1 : JournalRecord) : Option (Disk × Int) :=
  (disk_Valid k a0).bind fun x1 => ((bif (!x1) then (some true) else ((journal_ValidRecord k a1).bind fun x7 => some (!x7))) : Option Bool).bind fun x2 => bif x2 then (some ((⟨([] : List UInt8), 0, false, 0, 0, false⟩ : Disk), 1)) else ((wire_Seal k a1.Kind a1.Body).bind fun x4 => bif (x4.2 != 0) then (some ((⟨([] : List UInt8), 0, false, 0, 0, false⟩ : Disk), x4.2)) else ((disk_Append k a0 x4.1).bind fun x6 => some (x6.1, x6.2)))
def actorgridref26_ValidRecord (k : Nat) (a0 : JournalRecord) : Option Bool :=
  some (((decide (a0.Kind ≥ 1)) && (decide (a0.Kind ≤ 255))) && (decide (((a0.Body.length : Nat) : Int) ≤ 16777216)))
def actorgridref26_AppendRecord (k : Nat) (a0 : Disk) (a1 : JournalRecord) : Option (Disk × Int) :=
  (actorgridref26_ValidDisk k a0).bind fun x1 => ((bif (!x1) then (some true) else ((actorgridref26_ValidRecord k a1).bind fun x6 => some (!x6))) : Option Bool).bind fun x2 => bif x2 then (some ((⟨([] : List UInt8), 0, false, 0, 0, false⟩ : Disk), 1)) else ((actorgridref1_Seal k a1.Kind a1.Body).bind fun x4 => (actorgridref26_AppendDisk k a0 x4.1).bind fun x5 => some (x5.1, x5.2))
def actorgridref26_Scan_loop1 (k : Nat) (a0 : List UInt8) : Nat → Int → (List JournalRecord) → (List Int) → Option ((List JournalRecord) × (List Int) × Int)
  | 0, _, _, _ => none
  | n1 + 1, s1_0, s1_1, s1_2 => Md.ifp (0 ≤ s1_0) <| Md.ifp ((s1_0).toNat ≤ a0.length) <| (actorgridref1_Open k (a0.drop ((s1_0).toNat))).bind fun x4 => bif (x4.2.2.2 != 0) then (some (s1_1, s1_2, s1_0)) else (Md.ifp (([] : List UInt8).length + x4.2.1.length ≤ 4000000) <| Md.ifp (s1_1.length + [(⟨x4.1, (([] : List UInt8) ++ x4.2.1)⟩ : JournalRecord)].length ≤ 4000000) <| Md.ifp (s1_2.length + [s1_0].length ≤ 4000000) <| actorgridref26_Scan_loop1 k a0 n1 (Md.W (s1_0 + x4.2.2.1)) (s1_1 ++ [(⟨x4.1, (([] : List UInt8) ++ x4.2.1)⟩ : JournalRecord)]) (s1_2 ++ [s1_0]))
def actorgridref26_Scan (k : Nat) (a0 : List UInt8) : Option ((List JournalRecord) × (List Int) × Int) :=
  (actorgridref26_Scan_loop1 k a0 k 0 ([] : List JournalRecord) ([] : List Int)).bind fun r1 => some r1
def actorgridref26_SameRecords_loop1 (k : Nat) (a0 : List JournalRecord) (a1 : List JournalRecord) : Nat → Nat → Option (Sum Unit Bool)
  | 0, _ => none
  | n2 + 1, s2_0 => bif (decide (((s2_0 : Nat) : Int) < ((a0.length : Nat) : Int))) then (Md.ifp (s2_0 < a0.length) <| Md.ifp (s2_0 < a1.length) <| bif (((a0.getD s2_0 default).Kind) != ((a1.getD s2_0 default).Kind)) then (some (Sum.inr false)) else (Md.ifp (s2_0 < a0.length) <| Md.ifp (s2_0 < a1.length) <| bif (!(decide (((a0.getD s2_0 default).Body) = ((a1.getD s2_0 default).Body)))) then (some (Sum.inr false)) else (Md.ifp (s2_0 + 1 ≤ 9223372036854775807) <| actorgridref26_SameRecords_loop1 k a0 a1 n2 (s2_0 + 1)))) else (some (Sum.inl ()))
def actorgridref26_SameRecords (k : Nat) (a0 : List JournalRecord) (a1 : List JournalRecord) : Option Bool :=
  bif (((a0.length : Nat) : Int) != ((a1.length : Nat) : Int)) then (some false) else ((actorgridref26_SameRecords_loop1 k a0 a1 k 0).bind fun o2 => Md.onS o2 (fun x2_0 => some true) (fun r2 => some r2))
def actorgridlaw27_bytes_loop1 (k : Nat) (a0 : List JournalRecord) : Nat → Nat → (List UInt8) → Option (List UInt8)
  | 0, _, _ => none
  | n1 + 1, s1_0, s1_1 => bif (decide (((s1_0 : Nat) : Int) < ((a0.length : Nat) : Int))) then ((Md.ifp (s1_0 < a0.length) <| Md.ifp (s1_0 < a0.length) <| (actorgridref1_Seal k ((a0.getD s1_0 default).Kind) ((a0.getD s1_0 default).Body)).bind fun x8 => bif (x8.2 == 0) then (Md.ifp (s1_1.length + x8.1.length ≤ 4000000) <| some (s1_1 ++ x8.1)) else (some s1_1) : Option (List UInt8)).bind fun x4_0 => Md.ifp (s1_0 + 1 ≤ 9223372036854775807) <| actorgridlaw27_bytes_loop1 k a0 n1 (s1_0 + 1) x4_0) else (some s1_1)
def actorgridlaw27_bytes (k : Nat) (a0 : List JournalRecord) (a1 : List UInt8) : Option (List UInt8) :=
  (actorgridlaw27_bytes_loop1 k a0 k 0 ([] : List UInt8)).bind fun x1_0 => Md.ifp (x1_0.length + a1.length ≤ 4000000) <| some (x1_0 ++ a1)
def actorgridref26_RecoverRecords (k : Nat) (a0 : Disk) : Option ((List JournalRecord) × Disk × Int) :=
  (actorgridref26_ValidDisk k a0).bind fun x1 => bif (!x1) then (some (([] : List JournalRecord), (⟨([] : List UInt8), 0, false, 0, 0, false⟩ : Disk), 1)) else (bif a0.Down then ((actorgridref26_copyDisk k a0).bind fun x4 => some (([] : List JournalRecord), x4, 23)) else ((actorgridref26_Scan k a0.Data).bind fun x5 => bif (x5.2.2 == ((a0.Data.length : Nat) : Int)) then ((actorgridref26_copyDisk k a0).bind fun x7 => some (x5.1, x7, 0)) else ((actorgridref26_Truncate k a0 x5.2.2).bind fun x8 => bif (x8.2 != 0) then (some (([] : List JournalRecord), x8.1, x8.2)) else (some (x5.1, x8.1, 0)))))
end Md
end Go.Proofs.Ytkcfkcgclljncaa
