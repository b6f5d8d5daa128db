/-
  Disk: what the functions compute, as plain Lean functions (printed by wip/tools/auto.py from the functions' trees). No condition.
-/
import Derived.Test.YtkcfkcgclljncaaConcatM
namespace Go.Proofs.Ytkcfkcgclljncaa
set_option linter.unusedVariables false
namespace Md
structure Disk where
  Data : List UInt8
  Capacity : Int
  Armed : Bool
  Writes : Int
  Keep : Int
  Down : Bool
  deriving Inhabited, DecidableEq
def Disk.ok (x : Disk) : Prop := Md.I64 x.Capacity ∧ Md.I64 x.Writes ∧ Md.I64 x.Keep
def disk_Valid (k : Nat) (a0 : Disk) : Option Bool :=
  bif (decide (a0.Capacity < 0)) then (some false) else (bif (decide (a0.Capacity > 1048576)) then (some false) else (bif (decide (((a0.Data.length : Nat) : Int) > a0.Capacity)) then (some false) else (bif (decide (a0.Writes < 0)) then (some false) else (bif (decide (a0.Keep < 0)) then (some false) else (bif a0.Armed then (some (!a0.Down)) else (some ((a0.Writes == 0) && (a0.Keep == 0))))))))
def actorgridref26_ValidDisk (k : Nat) (a0 : Disk) : Option Bool :=
  bif (((((decide (a0.Capacity < 0)) || (decide (a0.Capacity > 1048576))) || (decide (((a0.Data.length : Nat) : Int) > a0.Capacity))) || (decide (a0.Writes < 0))) || (decide (a0.Keep < 0))) then (some false) else (some ((a0.Armed && (!a0.Down)) || (((!a0.Armed) && (a0.Writes == 0)) && (a0.Keep == 0))))
def disk_New (k : Nat) (a0 : Int) : Option (Disk × Int) :=
  bif ((decide (a0 < 0)) || (decide (a0 > 1048576))) then (some ((⟨([] : List UInt8), 0, false, 0, 0, false⟩ : Disk), 1)) else (some ((⟨([] : List UInt8), a0, false, 0, 0, false⟩ : Disk), 0))
def actorgridref26_NewDisk (k : Nat) (a0 : Int) : Option (Disk × Int) :=
  bif ((decide (a0 < 0)) || (decide (a0 > 1048576))) then (some ((⟨([] : List UInt8), 0, false, 0, 0, false⟩ : Disk), 1)) else (some ((⟨([] : List UInt8), a0, false, 0, 0, false⟩ : Disk), 0))
def actorgridref26_SameDisk (k : Nat) (a0 : Disk) (a1 : Disk) : Option Bool :=
  some ((((((decide (a0.Data = a1.Data)) && (a0.Capacity == a1.Capacity)) && (a0.Armed == a1.Armed)) && (a0.Writes == a1.Writes)) && (a0.Keep == a1.Keep)) && (a0.Down == a1.Down))
def disk_clone (k : Nat) (a0 : Disk) : Option Disk :=
  Md.ifp (a0.Data.length ≤ 4000000) <| some a0
def disk_crash (k : Nat) (a0 : Disk) (a1 : List UInt8) : Option Disk :=
  Md.ifp (a1.length ≤ 4000000) <| some (⟨a1, a0.Capacity, false, 0, 0, true⟩ : Disk)
def disk_written (k : Nat) (a0 : Disk) (a1 : List UInt8) : Option Disk :=
  bif a0.Armed then (some (⟨a1, a0.Capacity, a0.Armed, (Md.W (a0.Writes - 1)), a0.Keep, a0.Down⟩ : Disk)) else (some (⟨a1, a0.Capacity, a0.Armed, a0.Writes, a0.Keep, a0.Down⟩ : Disk))
def disk_Append (k : Nat) (a0 : Disk) (a1 : List UInt8) : Option (Disk × Int) :=
  (disk_Valid k a0).bind fun x1 => bif (!x1) then (some ((⟨([] : List UInt8), 0, false, 0, 0, false⟩ : Disk), 1)) else (bif a0.Down then ((disk_clone k a0).bind fun x4 => some (x4, 23)) else (bif (decide (((a1.length : Nat) : Int) > (Md.W (a0.Capacity - ((a0.Data.length : Nat) : Int))))) then ((disk_clone k a0).bind fun x6 => some (x6, 5)) else (bif (a0.Armed && (a0.Writes == 0)) then (Md.ifp (0 ≤ (min a0.Keep ((a1.length : Nat) : Int))) <| Md.ifp (((min a0.Keep ((a1.length : Nat) : Int))).toNat ≤ a1.length) <| (slices_Concat k [a0.Data, (a1.take (((min a0.Keep ((a1.length : Nat) : Int))).toNat))]).bind fun x11 => (disk_crash k a0 x11).bind fun x12 => some (x12, 23)) else ((slices_Concat k [a0.Data, a1]).bind fun x13 => (disk_written k a0 x13).bind fun x14 => some (x14, 0)))))
def disk_Truncate (k : Nat) (a0 : Disk) (a1 : Int) : Option (Disk × Int) :=
  (disk_Valid k a0).bind fun x1 => bif (!x1) then (some ((⟨([] : List UInt8), 0, false, 0, 0, false⟩ : Disk), 1)) else (bif a0.Down then ((disk_clone k a0).bind fun x4 => some (x4, 23)) else (bif ((decide (a1 < 0)) || (decide (a1 > ((a0.Data.length : Nat) : Int)))) then ((disk_clone k a0).bind fun x7 => some (x7, 20)) else (bif ((a0.Armed && (a0.Writes == 0)) && (decide (a0.Keep > 0))) then (Md.ifp (0 ≤ a1) <| Md.ifp ((a1).toNat ≤ a0.Data.length) <| (disk_crash k a0 (a0.Data.take ((a1).toNat))).bind fun x13 => some (x13, 23)) else (bif (a0.Armed && (a0.Writes == 0)) then ((disk_crash k a0 a0.Data).bind fun x16 => some (x16, 23)) else (Md.ifp (0 ≤ a1) <| Md.ifp ((a1).toNat ≤ a0.Data.length) <| Md.ifp ((a0.Data.take ((a1).toNat)).length ≤ 4000000) <| (disk_written k a0 (a0.Data.take ((a1).toNat))).bind fun x20 => some (x20, 0))))))
def disk_Arm (k : Nat) (a0 : Disk) (a1 : Int) (a2 : Int) : Option (Disk × Int) :=
  (disk_Valid k a0).bind fun x1 => bif (((!x1) || (decide (a1 < 0))) || (decide (a2 < 0))) then (some ((⟨([] : List UInt8), 0, false, 0, 0, false⟩ : Disk), 1)) else (bif a0.Down then (some ((⟨([] : List UInt8), 0, false, 0, 0, false⟩ : Disk), 23)) else ((disk_clone k a0).bind fun x6 => some ((⟨x6.Data, x6.Capacity, true, a1, a2, x6.Down⟩ : Disk), 0)))
def disk_Restart (k : Nat) (a0 : Disk) : Option (Disk × Int) :=
  (disk_Valid k a0).bind fun x1 => bif (!x1) then (some ((⟨([] : List UInt8), 0, false, 0, 0, false⟩ : Disk), 1)) else (Md.ifp (a0.Data.length ≤ 4000000) <| some ((⟨a0.Data, a0.Capacity, false, 0, 0, false⟩ : Disk), 0))
def actorgridref26_copyDisk (k : Nat) (a0 : Disk) : Option Disk :=
  Md.ifp (([] : List UInt8).length + a0.Data.length ≤ 4000000) <| some (⟨(([] : List UInt8) ++ a0.Data), a0.Capacity, a0.Armed, a0.Writes, a0.Keep, a0.Down⟩ : Disk)
def actorgridref26_AppendDisk (k : Nat) (a0 : Disk) (a1 : List UInt8) : Option (Disk × Int) :=
  (actorgridref26_ValidDisk k a0).bind fun x1 => bif (!x1) then (some ((⟨([] : List UInt8), 0, false, 0, 0, false⟩ : Disk), 1)) else ((actorgridref26_copyDisk k a0).bind fun x3 => bif x3.Down then (some (x3, 23)) else (bif (decide (((a1.length : Nat) : Int) > (Md.W (x3.Capacity - ((x3.Data.length : Nat) : Int))))) then (some (x3, 5)) else (bif (x3.Armed && (x3.Writes == 0)) then (Md.ifp (0 ≤ (min x3.Keep ((a1.length : Nat) : Int))) <| Md.ifp (((min x3.Keep ((a1.length : Nat) : Int))).toNat ≤ a1.length) <| Md.ifp (x3.Data.length + (a1.take (((min x3.Keep ((a1.length : Nat) : Int))).toNat)).length ≤ 4000000) <| some ((⟨(x3.Data ++ (a1.take (((min x3.Keep ((a1.length : Nat) : Int))).toNat))), x3.Capacity, false, 0, 0, true⟩ : Disk), 23)) else (Md.ifp (x3.Data.length + a1.length ≤ 4000000) <| bif x3.Armed then (some ((⟨(x3.Data ++ a1), x3.Capacity, x3.Armed, (Md.W (x3.Writes - 1)), x3.Keep, x3.Down⟩ : Disk), 0)) else (some ((⟨(x3.Data ++ a1), x3.Capacity, x3.Armed, x3.Writes, x3.Keep, x3.Down⟩ : Disk), 0))))))
def actorgridref26_Truncate (k : Nat) (a0 : Disk) (a1 : Int) : Option (Disk × Int) :=
  (actorgridref26_ValidDisk k a0).bind fun x1 => bif (!x1) then (some ((⟨([] : List UInt8), 0, false, 0, 0, false⟩ : Disk), 1)) else ((actorgridref26_copyDisk k a0).bind fun x3 => bif x3.Down then (some (x3, 23)) else (bif ((decide (a1 < 0)) || (decide (a1 > ((x3.Data.length : Nat) : Int)))) then (some (x3, 20)) else (bif (x3.Armed && (x3.Writes == 0)) then (bif (decide (x3.Keep > 0)) then (Md.ifp (0 ≤ a1) <| Md.ifp ((a1).toNat ≤ x3.Data.length) <| some ((⟨(x3.Data.take ((a1).toNat)), x3.Capacity, false, 0, 0, true⟩ : Disk), 23)) else (some ((⟨x3.Data, x3.Capacity, false, 0, 0, true⟩ : Disk), 23))) else (Md.ifp (0 ≤ a1) <| Md.ifp ((a1).toNat ≤ x3.Data.length) <| bif x3.Armed then (some ((⟨(x3.Data.take ((a1).toNat)), x3.Capacity, x3.Armed, (Md.W (x3.Writes - 1)), x3.Keep, x3.Down⟩ : Disk), 0)) else (some ((⟨(x3.Data.take ((a1).toNat)), x3.Capacity, x3.Armed, x3.Writes, x3.Keep, x3.Down⟩ : Disk), 0))))))
def actorgridref26_Arm (k : Nat) (a0 : Disk) (a1 : Int) (a2 : Int) : Option (Disk × Int) :=
  (actorgridref26_ValidDisk k a0).bind fun x1 => bif (((!x1) || (decide (a1 < 0))) || (decide (a2 < 0))) then (some ((⟨([] : List UInt8), 0, false, 0, 0, false⟩ : Disk), 1)) else (bif a0.Down then (some ((⟨([] : List UInt8), 0, false, 0, 0, false⟩ : Disk), 23)) else ((actorgridref26_copyDisk k a0).bind fun x6 => some ((⟨x6.Data, x6.Capacity, true, a1, a2, x6.Down⟩ : Disk), 0)))
def actorgridref26_Restart (k : Nat) (a0 : Disk) : Option (Disk × Int) :=
  (actorgridref26_ValidDisk k a0).bind fun x1 => bif (!x1) then (some ((⟨([] : List UInt8), 0, false, 0, 0, false⟩ : Disk), 1)) else (Md.ifp (a0.Data.length ≤ 4000000) <| some ((⟨a0.Data, a0.Capacity, false, 0, 0, false⟩ : Disk), 0))
end Md
end Go.Proofs.Ytkcfkcgclljncaa
