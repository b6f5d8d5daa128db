/-
  DiskC: what the functions compute, as plain Lean functions (printed by wip/tools/auto.py from the functions' trees). No condition.
-/
import Derived.Test.YtkcfkcgclljncaaDiskBM
namespace Go.Proofs.Ytkcfkcgclljncaa
set_option linter.unusedVariables false
namespace Md
def actorgridref26_copyDisk (k : Nat) (a0 : Disk) : Option Disk :=
  Md.ifp (([] : List UInt8).length + a0.Data.length ≤ 4000000) <| some (⟨(([] : List UInt8) ++ a0.Data), a0.Capacity, a0.Armed, a0.Writes, a0.Keep, a0.Down⟩ : Disk)
def actorgridref26_AppendDisk (k : Nat) (a0 : Disk) (a1 : List UInt8) : Option (Disk × Int) :=
  (actorgridref26_ValidDisk k a0).bind fun x1 => bif (!x1) then (some ((⟨([] : List UInt8), 0, false, 0, 0, false⟩ : Disk), 1)) else ((actorgridref26_copyDisk k a0).bind fun x3 => bif x3.Down then (some (x3, 23)) else (bif (decide (((a1.length : Nat) : Int) > (Md.W (x3.Capacity - ((x3.Data.length : Nat) : Int))))) then (some (x3, 5)) else (bif x3.Armed then (bif (x3.Writes == 0) then (Md.ifp (0 ≤ (min x3.Keep ((a1.length : Nat) : Int))) <| Md.ifp (((min x3.Keep ((a1.length : Nat) : Int))).toNat ≤ a1.length) <| Md.ifp (x3.Data.length + (a1.take (((min x3.Keep ((a1.length : Nat) : Int))).toNat)).length ≤ 4000000) <| some ((⟨(x3.Data ++ (a1.take (((min x3.Keep ((a1.length : Nat) : Int))).toNat))), x3.Capacity, false, 0, 0, true⟩ : Disk), 23)) else (Md.ifp (x3.Data.length + a1.length ≤ 4000000) <| some ((⟨(x3.Data ++ a1), x3.Capacity, x3.Armed, (Md.W (x3.Writes - 1)), x3.Keep, x3.Down⟩ : Disk), 0))) else (Md.ifp (x3.Data.length + a1.length ≤ 4000000) <| some ((⟨(x3.Data ++ a1), x3.Capacity, x3.Armed, x3.Writes, x3.Keep, x3.Down⟩ : Disk), 0)))))
def actorgridref26_Truncate (k : Nat) (a0 : Disk) (a1 : Int) : Option (Disk × Int) :=
  (actorgridref26_ValidDisk k a0).bind fun x1 => bif (!x1) then (some ((⟨([] : List UInt8), 0, false, 0, 0, false⟩ : Disk), 1)) else ((actorgridref26_copyDisk k a0).bind fun x3 => bif x3.Down then (some (x3, 23)) else (bif (decide (a1 < 0)) then (some (x3, 20)) else (bif (decide (a1 > ((x3.Data.length : Nat) : Int))) then (some (x3, 20)) else (bif x3.Armed then (bif (x3.Writes == 0) then (bif (decide (x3.Keep > 0)) then (Md.ifp (0 ≤ a1) <| Md.ifp ((a1).toNat ≤ x3.Data.length) <| some ((⟨(x3.Data.take ((a1).toNat)), x3.Capacity, false, 0, 0, true⟩ : Disk), 23)) else (some ((⟨x3.Data, x3.Capacity, false, 0, 0, true⟩ : Disk), 23))) else (Md.ifp (0 ≤ a1) <| Md.ifp ((a1).toNat ≤ x3.Data.length) <| some ((⟨(x3.Data.take ((a1).toNat)), x3.Capacity, x3.Armed, (Md.W (x3.Writes - 1)), x3.Keep, x3.Down⟩ : Disk), 0))) else (Md.ifp (0 ≤ a1) <| Md.ifp ((a1).toNat ≤ x3.Data.length) <| some ((⟨(x3.Data.take ((a1).toNat)), x3.Capacity, x3.Armed, x3.Writes, x3.Keep, x3.Down⟩ : Disk), 0))))))
def actorgridref26_Read (k : Nat) (a0 : Disk) : Option ((List UInt8) × Int) :=
  (actorgridref26_ValidDisk k a0).bind fun x1 => bif (!x1) then (some (([] : List UInt8), 1)) else (bif a0.Down then (some (([] : List UInt8), 23)) else (Md.ifp (([] : List UInt8).length + a0.Data.length ≤ 4000000) <| some ((([] : List UInt8) ++ a0.Data), 0)))
def actorgridref26_Arm (k : Nat) (a0 : Disk) (a1 : Int) (a2 : Int) : Option (Disk × Int) :=
  (actorgridref26_ValidDisk k a0).bind fun x1 => bif (!x1) then (some ((⟨([] : List UInt8), 0, false, 0, 0, false⟩ : Disk), 1)) else (bif (decide (a1 < 0)) then (some ((⟨([] : List UInt8), 0, false, 0, 0, false⟩ : Disk), 1)) else (bif (decide (a2 < 0)) then (some ((⟨([] : List UInt8), 0, false, 0, 0, false⟩ : Disk), 1)) else (bif a0.Down then (some ((⟨([] : List UInt8), 0, false, 0, 0, false⟩ : Disk), 23)) else ((actorgridref26_copyDisk k a0).bind fun x6 => some ((⟨x6.Data, x6.Capacity, true, a1, a2, x6.Down⟩ : Disk), 0)))))
def actorgridref26_Restart (k : Nat) (a0 : Disk) : Option (Disk × Int) :=
  (actorgridref26_ValidDisk k a0).bind fun x1 => bif (!x1) then (some ((⟨([] : List UInt8), 0, false, 0, 0, false⟩ : Disk), 1)) else (Md.ifp (a0.Data.length ≤ 4000000) <| some ((⟨a0.Data, a0.Capacity, false, 0, 0, false⟩ : Disk), 0))
def actorgridlaw26_same (k : Nat) (a0 : Disk) (a1 : Int) (a2 : Disk) (a3 : Int) : Option Bool :=
  bif (a1 == a3) then ((actorgridref26_SameDisk k a0 a2).bind fun x2 => some x2) else (some false)
end Md
end Go.Proofs.Ytkcfkcgclljncaa
