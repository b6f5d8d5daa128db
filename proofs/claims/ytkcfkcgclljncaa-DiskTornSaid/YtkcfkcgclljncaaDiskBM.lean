/-
  DiskB: what the functions compute, as plain Lean functions (printed by wip/tools/auto.py from the functions' trees). No condition.
-/
import Derived.Test.YtkcfkcgclljncaaDiskAM
import Derived.Test.YtkcfkcgclljncaaConcatM
namespace Go.Proofs.Ytkcfkcgclljncaa
set_option linter.unusedVariables false
namespace Md
def disk_clone (k : Nat) (a0 : Disk) : Option Disk :=
  Md.ifp (a0.Data.length ≤ 4000000) <| some a0
def disk_crash (k : Nat) (a0 : Disk) (a1 : List UInt8) : Option Disk :=
  Md.ifp (a1.length ≤ 4000000) <| some (⟨a1, a0.Capacity, false, 0, 0, true⟩ : Disk)
def disk_written (k : Nat) (a0 : Disk) (a1 : List UInt8) : Option Disk :=
  bif a0.Armed then (some (⟨a1, a0.Capacity, a0.Armed, (Md.W (a0.Writes - 1)), a0.Keep, a0.Down⟩ : Disk)) else (some (⟨a1, a0.Capacity, a0.Armed, a0.Writes, a0.Keep, a0.Down⟩ : Disk))
def disk_Append (k : Nat) (a0 : Disk) (a1 : List UInt8) : Option (Disk × Int) :=
  (disk_Valid k a0).bind fun x1 => bif (!x1) then (some ((⟨([] : List UInt8), 0, false, 0, 0, false⟩ : Disk), 1)) else (bif a0.Down then ((disk_clone k a0).bind fun x4 => some (x4, 23)) else (bif (decide (((a1.length : Nat) : Int) > (Md.W (a0.Capacity - ((a0.Data.length : Nat) : Int))))) then ((disk_clone k a0).bind fun x6 => some (x6, 5)) else (bif a0.Armed then (bif (a0.Writes == 0) then (Md.ifp (0 ≤ (min a0.Keep ((a1.length : Nat) : Int))) <| Md.ifp (((min a0.Keep ((a1.length : Nat) : Int))).toNat ≤ a1.length) <| (slices_Concat k [a0.Data, (a1.take (((min a0.Keep ((a1.length : Nat) : Int))).toNat))]).bind fun x11 => (disk_crash k a0 x11).bind fun x12 => some (x12, 23)) else ((slices_Concat k [a0.Data, a1]).bind fun x13 => (disk_written k a0 x13).bind fun x14 => some (x14, 0))) else ((slices_Concat k [a0.Data, a1]).bind fun x15 => (disk_written k a0 x15).bind fun x16 => some (x16, 0)))))
def disk_Truncate (k : Nat) (a0 : Disk) (a1 : Int) : Option (Disk × Int) :=
  (disk_Valid k a0).bind fun x1 => bif (!x1) then (some ((⟨([] : List UInt8), 0, false, 0, 0, false⟩ : Disk), 1)) else (bif a0.Down then ((disk_clone k a0).bind fun x4 => some (x4, 23)) else (bif (decide (a1 < 0)) then ((disk_clone k a0).bind fun x6 => some (x6, 20)) else (bif (decide (a1 > ((a0.Data.length : Nat) : Int))) then ((disk_clone k a0).bind fun x8 => some (x8, 20)) else (bif a0.Armed then (bif (a0.Writes == 0) then (bif (decide (a0.Keep > 0)) then (Md.ifp (0 ≤ a1) <| Md.ifp ((a1).toNat ≤ a0.Data.length) <| (disk_crash k a0 (a0.Data.take ((a1).toNat))).bind fun x14 => some (x14, 23)) else ((disk_crash k a0 a0.Data).bind fun x15 => some (x15, 23))) else (Md.ifp (0 ≤ a1) <| Md.ifp ((a1).toNat ≤ a0.Data.length) <| Md.ifp ((a0.Data.take ((a1).toNat)).length ≤ 4000000) <| (disk_written k a0 (a0.Data.take ((a1).toNat))).bind fun x19 => some (x19, 0))) else (Md.ifp (0 ≤ a1) <| Md.ifp ((a1).toNat ≤ a0.Data.length) <| Md.ifp ((a0.Data.take ((a1).toNat)).length ≤ 4000000) <| (disk_written k a0 (a0.Data.take ((a1).toNat))).bind fun x23 => some (x23, 0))))))
def disk_Read (k : Nat) (a0 : Disk) : Option ((List UInt8) × Int) :=
  (disk_Valid k a0).bind fun x1 => bif (!x1) then (some (([] : List UInt8), 1)) else (bif a0.Down then (some (([] : List UInt8), 23)) else (Md.ifp (a0.Data.length ≤ 4000000) <| some (a0.Data, 0)))
def disk_Arm (k : Nat) (a0 : Disk) (a1 : Int) (a2 : Int) : Option (Disk × Int) :=
  (disk_Valid k a0).bind fun x1 => bif (!x1) then (some ((⟨([] : List UInt8), 0, false, 0, 0, false⟩ : Disk), 1)) else (bif (decide (a1 < 0)) then (some ((⟨([] : List UInt8), 0, false, 0, 0, false⟩ : Disk), 1)) else (bif (decide (a2 < 0)) then (some ((⟨([] : List UInt8), 0, false, 0, 0, false⟩ : Disk), 1)) else (bif a0.Down then (some ((⟨([] : List UInt8), 0, false, 0, 0, false⟩ : Disk), 23)) else ((disk_clone k a0).bind fun x6 => some ((⟨x6.Data, x6.Capacity, true, a1, a2, x6.Down⟩ : Disk), 0)))))
def disk_Restart (k : Nat) (a0 : Disk) : Option (Disk × Int) :=
  (disk_Valid k a0).bind fun x1 => bif (!x1) then (some ((⟨([] : List UInt8), 0, false, 0, 0, false⟩ : Disk), 1)) else (Md.ifp (a0.Data.length ≤ 4000000) <| some ((⟨a0.Data, a0.Capacity, false, 0, 0, false⟩ : Disk), 0))
end Md
end Go.Proofs.Ytkcfkcgclljncaa
