/-
  DiskA: what the functions compute, as plain Lean functions (printed by wip/tools/auto.py from the functions' trees). No condition.
-/
import Derived.Test.YtkcfkcgclljncaaMd
namespace Go.Proofs.Ytkcfkcgclljncaa
set_option linter.unusedVariables false
namespace Md
structure Disk where
  Data : List UInt8
  Capacity : Int
  Armed : Bool
  Writes : Int
  Keep : Int
  Down : Bool
  deriving Inhabited, DecidableEq
def Disk.ok (x : Disk) : Prop := Md.I64 x.Capacity ∧ Md.I64 x.Writes ∧ Md.I64 x.Keep
def disk_Valid (k : Nat) (a0 : Disk) : Option Bool :=
  bif (decide (a0.Capacity < 0)) then (some false) else (bif (decide (a0.Capacity > 1048576)) then (some false) else (bif (decide (((a0.Data.length : Nat) : Int) > a0.Capacity)) then (some false) else (bif (decide (a0.Writes < 0)) then (some false) else (bif (decide (a0.Keep < 0)) then (some false) else (bif a0.Armed then (some (!a0.Down)) else (bif (a0.Writes == 0) then (some (a0.Keep == 0)) else (some false)))))))
def actorgridref26_ValidDisk (k : Nat) (a0 : Disk) : Option Bool :=
  bif (decide (a0.Capacity < 0)) then (some false) else (bif (decide (a0.Capacity > 1048576)) then (some false) else (bif (decide (((a0.Data.length : Nat) : Int) > a0.Capacity)) then (some false) else (bif (decide (a0.Writes < 0)) then (some false) else (bif (decide (a0.Keep < 0)) then (some false) else (bif a0.Armed then (bif (!a0.Down) then (some true) else (some false)) else (bif (a0.Writes == 0) then (some (a0.Keep == 0)) else (some false)))))))
def disk_New (k : Nat) (a0 : Int) : Option (Disk × Int) :=
  bif (decide (a0 < 0)) then (some ((⟨([] : List UInt8), 0, false, 0, 0, false⟩ : Disk), 1)) else (bif (decide (a0 > 1048576)) then (some ((⟨([] : List UInt8), 0, false, 0, 0, false⟩ : Disk), 1)) else (some ((⟨([] : List UInt8), a0, false, 0, 0, false⟩ : Disk), 0)))
def actorgridref26_NewDisk (k : Nat) (a0 : Int) : Option (Disk × Int) :=
  bif (decide (a0 < 0)) then (some ((⟨([] : List UInt8), 0, false, 0, 0, false⟩ : Disk), 1)) else (bif (decide (a0 > 1048576)) then (some ((⟨([] : List UInt8), 0, false, 0, 0, false⟩ : Disk), 1)) else (some ((⟨([] : List UInt8), a0, false, 0, 0, false⟩ : Disk), 0)))
def actorgridref26_SameDisk (k : Nat) (a0 : Disk) (a1 : Disk) : Option Bool :=
  bif (decide (a0.Data = a1.Data)) then (bif (a0.Capacity == a1.Capacity) then (bif (a0.Armed == a1.Armed) then (bif (a0.Writes == a1.Writes) then (bif (a0.Keep == a1.Keep) then (some (a0.Down == a1.Down)) else (some false)) else (some false)) else (some false)) else (some false)) else (some false)
end Md
end Go.Proofs.Ytkcfkcgclljncaa
