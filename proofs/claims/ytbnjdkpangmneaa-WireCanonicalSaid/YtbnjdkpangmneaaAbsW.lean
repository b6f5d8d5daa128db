/-
  A reading of Go's memory by values: Go's numbers as Lean's, rules for strings, and what the printed walks (wip/tools/auto.py) use beside. No program of Go's is named here.
-/
import Derived.Test.YtbnjdkpangmneaaAbsS
import Derived.Test.YtbnjdkpangmneaaAbsT
import Derived.Test.YtbnjdkpangmneaaMd
namespace Go.Proofs.Ytbnjdkpangmneaa
open Go.ChangeShapes Go.WideShapes Go.RowKit
set_option linter.unusedVariables false
set_option linter.unusedSimpArgs false
namespace Md
theorem wrap_W (n : Int) : IntKind.i64.wrap n = W n := by
  unfold W IntKind.wrap
  simp [IntKind.bits, IntKind.signed]
theorem wr_u8 (n : Int) : IntKind.u8.wrap n = n % 256 := by simp [IntKind.wrap, IntKind.bits, IntKind.signed]
theorem wr_u16 (n : Int) : IntKind.u16.wrap n = n % 65536 := by simp [IntKind.wrap, IntKind.bits, IntKind.signed]
theorem wr_u32 (n : Int) : IntKind.u32.wrap n = n % 4294967296 := by simp [IntKind.wrap, IntKind.bits, IntKind.signed]
theorem wr_u64 (n : Int) : IntKind.u64.wrap n = n % 18446744073709551616 := by simp [IntKind.wrap, IntKind.bits, IntKind.signed]
theorem nat_add {a b : Nat} (h : a + b ≤ 9223372036854775807) : IntKind.i64.wrap ((a : Int) + (b : Int)) = ((a + b : Nat) : Int) := (Abs.wrap_i64 (by omega) (by omega)).trans (by omega)
theorem nat_mul {a b : Nat} (h : a * b ≤ 9223372036854775807) : IntKind.i64.wrap ((a : Int) * (b : Int)) = ((a * b : Nat) : Int) := by
  rw [← Int.natCast_mul]
  exact Abs.wrap_i64 (by omega) (by omega)
theorem nat_quo {a b : Nat} (h : a ≤ 9223372036854775807) : IntKind.i64.wrap ((a : Int).tdiv (b : Int)) = ((a / b : Nat) : Int) := by
  rw [← Int.ofNat_tdiv]
  have h2 := Nat.div_le_self a b
  generalize a / b = q at *
  exact Abs.wrap_i64 (by omega) (by omega)
theorem nat_rem (a b : Nat) : (a : Int).tmod (b : Int) = ((a % b : Nat) : Int) := (Int.ofNat_tmod a b).symm
theorem nat_min (a b : Nat) : (if (b : Int) < (a : Int) then (b : Int) else (a : Int)) = ((min a b : Nat) : Int) := by split <;> omega
theorem nat_max (a b : Nat) : (if (b : Int) > (a : Int) then (b : Int) else (a : Int)) = ((max a b : Nat) : Int) := by split <;> omega
theorem int_min (a b : Int) : (if b < a then b else a) = min a b := by split <;> omega
theorem int_max (a b : Int) : (if b > a then b else a) = max a b := by split <;> omega
theorem nat_toNat (n : Nat) : ((n : Int)).toNat = n := rfl
theorem int_toNat (n : Int) : n.toNat = n.toNat := rfl
theorem iand_i64 (a b : Int) : IntKind.i64.wrap (BitVec.ofInt IntKind.i64.bits a &&& BitVec.ofInt IntKind.i64.bits b).toNat = iand a b := wrap_W _
theorem ior_i64 (a b : Int) : IntKind.i64.wrap (BitVec.ofInt IntKind.i64.bits a ||| BitVec.ofInt IntKind.i64.bits b).toNat = ior a b := wrap_W _
theorem ixor_i64 (a b : Int) : IntKind.i64.wrap (BitVec.ofInt IntKind.i64.bits a ^^^ BitVec.ofInt IntKind.i64.bits b).toNat = ixor a b := wrap_W _
theorem ishl_i64 (a : Int) {m : Int} {n : Nat} (h : m.toNat = n) : IntKind.i64.wrap (a * 2 ^ (min m.toNat IntKind.i64.bits)) = ishl a n := by rw [h]; exact wrap_W _
theorem ishr_i64 (a : Int) {m : Int} {n : Nat} (h : m.toNat = n) : a.fdiv (2 ^ (min m.toNat IntKind.i64.bits)) = ishr a n := by rw [h]; rfl
theorem add_u8 (a b : UInt8) : IntKind.u8.wrap ((a.toNat : Int) + (b.toNat : Int)) = ((a + b).toNat : Int) := by rw [wr_u8, UInt8.toNat_add]; omega
theorem sub_u8 (a b : UInt8) : IntKind.u8.wrap ((a.toNat : Int) - (b.toNat : Int)) = ((a - b).toNat : Int) := by
  rw [wr_u8, UInt8.toNat_sub]
  have := a.toNat_lt
  have := b.toNat_lt
  omega
theorem mul_u8 (a b : UInt8) : IntKind.u8.wrap ((a.toNat : Int) * (b.toNat : Int)) = ((a * b).toNat : Int) := by rw [wr_u8, UInt8.toNat_mul, ← Int.natCast_mul]; omega
theorem quo_u8 (a b : UInt8) : IntKind.u8.wrap ((a.toNat : Int).tdiv (b.toNat : Int)) = ((a / b).toNat : Int) := by
  rw [wr_u8, UInt8.toNat_div, ← Int.ofNat_tdiv]
  have h1 := a.toNat_lt
  have h2 := Nat.div_le_self a.toNat b.toNat
  generalize a.toNat / b.toNat = q at *
  omega
theorem rem_u8 (a b : UInt8) : (a.toNat : Int).tmod (b.toNat : Int) = ((a % b).toNat : Int) := by rw [UInt8.toNat_mod]; exact (Int.ofNat_tmod _ _).symm
theorem bv_u8 (a : UInt8) : BitVec.ofInt IntKind.u8.bits (a.toNat : Int) = a.toBitVec := by
  apply BitVec.eq_of_toNat_eq
  have := a.toNat_lt
  have h : IntKind.u8.bits = 8 := rfl
  simp [h]
  rfl
theorem and_u8 (a b : UInt8) : IntKind.u8.wrap (BitVec.ofInt IntKind.u8.bits (a.toNat : Int) &&& BitVec.ofInt IntKind.u8.bits (b.toNat : Int)).toNat = ((a &&& b).toNat : Int) := by
  rw [bv_u8, bv_u8, wr_u8]
  have := (a &&& b).toNat_lt
  show ((a &&& b).toNat : Int) % _ = _
  omega
theorem or_u8 (a b : UInt8) : IntKind.u8.wrap (BitVec.ofInt IntKind.u8.bits (a.toNat : Int) ||| BitVec.ofInt IntKind.u8.bits (b.toNat : Int)).toNat = ((a ||| b).toNat : Int) := by
  rw [bv_u8, bv_u8, wr_u8]
  have := (a ||| b).toNat_lt
  show ((a ||| b).toNat : Int) % _ = _
  omega
theorem xor_u8 (a b : UInt8) : IntKind.u8.wrap (BitVec.ofInt IntKind.u8.bits (a.toNat : Int) ^^^ BitVec.ofInt IntKind.u8.bits (b.toNat : Int)).toNat = ((a ^^^ b).toNat : Int) := by
  rw [bv_u8, bv_u8, wr_u8]
  have := (a ^^^ b).toNat_lt
  show ((a ^^^ b).toNat : Int) % _ = _
  omega
theorem shl_u8 (a : UInt8) {m : Int} {n : Nat} (h : m.toNat = n) : IntKind.u8.wrap ((a.toNat : Int) * 2 ^ (min m.toNat IntKind.u8.bits)) = ((shl8 a n).toNat : Int) := by
  subst h
  rw [wr_u8]
  show _ = ((UInt8.ofNat (a.toNat * 2 ^ min m.toNat 8)).toNat : Int)
  rw [UInt8.toNat_ofNat']
  have h : ((a.toNat : Int) * 2 ^ (min m.toNat IntKind.u8.bits)) = ((a.toNat * 2 ^ min m.toNat 8 : Nat) : Int) := by
    rw [Int.natCast_mul, Int.natCast_pow]
    rfl
  rw [h]
  omega
theorem shr_u8 (a : UInt8) {m : Int} {n : Nat} (h : m.toNat = n) : (a.toNat : Int).fdiv (2 ^ (min m.toNat IntKind.u8.bits)) = ((shr8 a n).toNat : Int) := by
  subst h
  show _ = ((UInt8.ofNat (a.toNat / 2 ^ min m.toNat 8)).toNat : Int)
  rw [UInt8.toNat_ofNat']
  have h : ((2 : Int) ^ (min m.toNat IntKind.u8.bits)) = ((2 ^ min m.toNat 8 : Nat) : Int) := by
    rw [Int.natCast_pow]
    rfl
  rw [h, ← Int.ofNat_fdiv]
  have h1 := a.toNat_lt
  have h2 := Nat.div_le_self a.toNat (2 ^ min m.toNat 8)
  generalize a.toNat / (2 ^ min m.toNat 8) = q at *
  omega
theorem ofNat_u8 (n : Nat) : IntKind.u8.wrap (n : Int) = ((UInt8.ofNat n).toNat : Int) := by rw [wr_u8, UInt8.toNat_ofNat']; omega
theorem ofInt_u8 (n : Int) : IntKind.u8.wrap n = ((UInt8.ofInt n).toNat : Int) := by
  rw [wr_u8]
  show _ = (((UInt8.ofNat (n % 2 ^ 8).toNat).toNat : Nat) : Int)
  rw [UInt8.toNat_ofNat']
  omega
theorem same_u8 (a : UInt8) : IntKind.u8.wrap (a.toNat : Int) = (a.toNat : Int) := by
  rw [wr_u8]
  have := a.toNat_lt
  omega
theorem compl_u8 (a : UInt8) : IntKind.u8.wrap (BitVec.ofInt IntKind.u8.bits IntKind.u8.max ^^^ BitVec.ofInt IntKind.u8.bits (a.toNat : Int)).toNat = ((~~~a).toNat : Int) := by
  rw [bv_u8, wr_u8]
  show (((BitVec.allOnes 8 ^^^ a.toBitVec).toNat : Nat) : Int) % 256 = _
  rw [BitVec.allOnes_xor]
  have := (~~~a).toNat_lt
  show ((~~~a).toNat : Int) % _ = _
  omega
theorem conv_u8_u16 (a : UInt8) : IntKind.u16.wrap (a.toNat : Int) = ((a.toUInt16).toNat : Int) := by rw [wr_u16, UInt8.toNat_toUInt16]; have := a.toNat_lt; omega
theorem conv_u8_u32 (a : UInt8) : IntKind.u32.wrap (a.toNat : Int) = ((a.toUInt32).toNat : Int) := by rw [wr_u32, UInt8.toNat_toUInt32]; have := a.toNat_lt; omega
theorem conv_u8_u64 (a : UInt8) : IntKind.u64.wrap (a.toNat : Int) = ((a.toUInt64).toNat : Int) := by rw [wr_u64, UInt8.toNat_toUInt64]; have := a.toNat_lt; omega
theorem conv_u8_i64 (a : UInt8) : IntKind.i64.wrap (a.toNat : Int) = ((a.toNat : Nat) : Int) := by have := a.toNat_lt; exact Abs.wrap_i64 (by omega) (by omega)
theorem add_u16 (a b : UInt16) : IntKind.u16.wrap ((a.toNat : Int) + (b.toNat : Int)) = ((a + b).toNat : Int) := by rw [wr_u16, UInt16.toNat_add]; omega
theorem sub_u16 (a b : UInt16) : IntKind.u16.wrap ((a.toNat : Int) - (b.toNat : Int)) = ((a - b).toNat : Int) := by
  rw [wr_u16, UInt16.toNat_sub]
  have := a.toNat_lt
  have := b.toNat_lt
  omega
theorem mul_u16 (a b : UInt16) : IntKind.u16.wrap ((a.toNat : Int) * (b.toNat : Int)) = ((a * b).toNat : Int) := by rw [wr_u16, UInt16.toNat_mul, ← Int.natCast_mul]; omega
theorem quo_u16 (a b : UInt16) : IntKind.u16.wrap ((a.toNat : Int).tdiv (b.toNat : Int)) = ((a / b).toNat : Int) := by
  rw [wr_u16, UInt16.toNat_div, ← Int.ofNat_tdiv]
  have h1 := a.toNat_lt
  have h2 := Nat.div_le_self a.toNat b.toNat
  generalize a.toNat / b.toNat = q at *
  omega
theorem rem_u16 (a b : UInt16) : (a.toNat : Int).tmod (b.toNat : Int) = ((a % b).toNat : Int) := by rw [UInt16.toNat_mod]; exact (Int.ofNat_tmod _ _).symm
theorem bv_u16 (a : UInt16) : BitVec.ofInt IntKind.u16.bits (a.toNat : Int) = a.toBitVec := by
  apply BitVec.eq_of_toNat_eq
  have := a.toNat_lt
  have h : IntKind.u16.bits = 16 := rfl
  simp [h]
  rfl
theorem and_u16 (a b : UInt16) : IntKind.u16.wrap (BitVec.ofInt IntKind.u16.bits (a.toNat : Int) &&& BitVec.ofInt IntKind.u16.bits (b.toNat : Int)).toNat = ((a &&& b).toNat : Int) := by
  rw [bv_u16, bv_u16, wr_u16]
  have := (a &&& b).toNat_lt
  show ((a &&& b).toNat : Int) % _ = _
  omega
theorem or_u16 (a b : UInt16) : IntKind.u16.wrap (BitVec.ofInt IntKind.u16.bits (a.toNat : Int) ||| BitVec.ofInt IntKind.u16.bits (b.toNat : Int)).toNat = ((a ||| b).toNat : Int) := by
  rw [bv_u16, bv_u16, wr_u16]
  have := (a ||| b).toNat_lt
  show ((a ||| b).toNat : Int) % _ = _
  omega
theorem xor_u16 (a b : UInt16) : IntKind.u16.wrap (BitVec.ofInt IntKind.u16.bits (a.toNat : Int) ^^^ BitVec.ofInt IntKind.u16.bits (b.toNat : Int)).toNat = ((a ^^^ b).toNat : Int) := by
  rw [bv_u16, bv_u16, wr_u16]
  have := (a ^^^ b).toNat_lt
  show ((a ^^^ b).toNat : Int) % _ = _
  omega
theorem shl_u16 (a : UInt16) {m : Int} {n : Nat} (h : m.toNat = n) : IntKind.u16.wrap ((a.toNat : Int) * 2 ^ (min m.toNat IntKind.u16.bits)) = ((shl16 a n).toNat : Int) := by
  subst h
  rw [wr_u16]
  show _ = ((UInt16.ofNat (a.toNat * 2 ^ min m.toNat 16)).toNat : Int)
  rw [UInt16.toNat_ofNat']
  have h : ((a.toNat : Int) * 2 ^ (min m.toNat IntKind.u16.bits)) = ((a.toNat * 2 ^ min m.toNat 16 : Nat) : Int) := by
    rw [Int.natCast_mul, Int.natCast_pow]
    rfl
  rw [h]
  omega
theorem shr_u16 (a : UInt16) {m : Int} {n : Nat} (h : m.toNat = n) : (a.toNat : Int).fdiv (2 ^ (min m.toNat IntKind.u16.bits)) = ((shr16 a n).toNat : Int) := by
  subst h
  show _ = ((UInt16.ofNat (a.toNat / 2 ^ min m.toNat 16)).toNat : Int)
  rw [UInt16.toNat_ofNat']
  have h : ((2 : Int) ^ (min m.toNat IntKind.u16.bits)) = ((2 ^ min m.toNat 16 : Nat) : Int) := by
    rw [Int.natCast_pow]
    rfl
  rw [h, ← Int.ofNat_fdiv]
  have h1 := a.toNat_lt
  have h2 := Nat.div_le_self a.toNat (2 ^ min m.toNat 16)
  generalize a.toNat / (2 ^ min m.toNat 16) = q at *
  omega
theorem ofNat_u16 (n : Nat) : IntKind.u16.wrap (n : Int) = ((UInt16.ofNat n).toNat : Int) := by rw [wr_u16, UInt16.toNat_ofNat']; omega
theorem ofInt_u16 (n : Int) : IntKind.u16.wrap n = ((UInt16.ofInt n).toNat : Int) := by
  rw [wr_u16]
  show _ = (((UInt16.ofNat (n % 2 ^ 16).toNat).toNat : Nat) : Int)
  rw [UInt16.toNat_ofNat']
  omega
theorem same_u16 (a : UInt16) : IntKind.u16.wrap (a.toNat : Int) = (a.toNat : Int) := by
  rw [wr_u16]
  have := a.toNat_lt
  omega
theorem compl_u16 (a : UInt16) : IntKind.u16.wrap (BitVec.ofInt IntKind.u16.bits IntKind.u16.max ^^^ BitVec.ofInt IntKind.u16.bits (a.toNat : Int)).toNat = ((~~~a).toNat : Int) := by
  rw [bv_u16, wr_u16]
  show (((BitVec.allOnes 16 ^^^ a.toBitVec).toNat : Nat) : Int) % 65536 = _
  rw [BitVec.allOnes_xor]
  have := (~~~a).toNat_lt
  show ((~~~a).toNat : Int) % _ = _
  omega
theorem conv_u16_u8 (a : UInt16) : IntKind.u8.wrap (a.toNat : Int) = ((a.toUInt8).toNat : Int) := by rw [wr_u8, UInt16.toNat_toUInt8]; omega
theorem conv_u16_u32 (a : UInt16) : IntKind.u32.wrap (a.toNat : Int) = ((a.toUInt32).toNat : Int) := by rw [wr_u32, UInt16.toNat_toUInt32]; have := a.toNat_lt; omega
theorem conv_u16_u64 (a : UInt16) : IntKind.u64.wrap (a.toNat : Int) = ((a.toUInt64).toNat : Int) := by rw [wr_u64, UInt16.toNat_toUInt64]; have := a.toNat_lt; omega
theorem conv_u16_i64 (a : UInt16) : IntKind.i64.wrap (a.toNat : Int) = ((a.toNat : Nat) : Int) := by have := a.toNat_lt; exact Abs.wrap_i64 (by omega) (by omega)
theorem add_u32 (a b : UInt32) : IntKind.u32.wrap ((a.toNat : Int) + (b.toNat : Int)) = ((a + b).toNat : Int) := by rw [wr_u32, UInt32.toNat_add]; omega
theorem sub_u32 (a b : UInt32) : IntKind.u32.wrap ((a.toNat : Int) - (b.toNat : Int)) = ((a - b).toNat : Int) := by
  rw [wr_u32, UInt32.toNat_sub]
  have := a.toNat_lt
  have := b.toNat_lt
  omega
theorem mul_u32 (a b : UInt32) : IntKind.u32.wrap ((a.toNat : Int) * (b.toNat : Int)) = ((a * b).toNat : Int) := by rw [wr_u32, UInt32.toNat_mul, ← Int.natCast_mul]; omega
theorem quo_u32 (a b : UInt32) : IntKind.u32.wrap ((a.toNat : Int).tdiv (b.toNat : Int)) = ((a / b).toNat : Int) := by
  rw [wr_u32, UInt32.toNat_div, ← Int.ofNat_tdiv]
  have h1 := a.toNat_lt
  have h2 := Nat.div_le_self a.toNat b.toNat
  generalize a.toNat / b.toNat = q at *
  omega
theorem rem_u32 (a b : UInt32) : (a.toNat : Int).tmod (b.toNat : Int) = ((a % b).toNat : Int) := by rw [UInt32.toNat_mod]; exact (Int.ofNat_tmod _ _).symm
theorem bv_u32 (a : UInt32) : BitVec.ofInt IntKind.u32.bits (a.toNat : Int) = a.toBitVec := by
  apply BitVec.eq_of_toNat_eq
  have := a.toNat_lt
  have h : IntKind.u32.bits = 32 := rfl
  simp [h]
  rfl
theorem and_u32 (a b : UInt32) : IntKind.u32.wrap (BitVec.ofInt IntKind.u32.bits (a.toNat : Int) &&& BitVec.ofInt IntKind.u32.bits (b.toNat : Int)).toNat = ((a &&& b).toNat : Int) := by
  rw [bv_u32, bv_u32, wr_u32]
  have := (a &&& b).toNat_lt
  show ((a &&& b).toNat : Int) % _ = _
  omega
theorem or_u32 (a b : UInt32) : IntKind.u32.wrap (BitVec.ofInt IntKind.u32.bits (a.toNat : Int) ||| BitVec.ofInt IntKind.u32.bits (b.toNat : Int)).toNat = ((a ||| b).toNat : Int) := by
  rw [bv_u32, bv_u32, wr_u32]
  have := (a ||| b).toNat_lt
  show ((a ||| b).toNat : Int) % _ = _
  omega
theorem xor_u32 (a b : UInt32) : IntKind.u32.wrap (BitVec.ofInt IntKind.u32.bits (a.toNat : Int) ^^^ BitVec.ofInt IntKind.u32.bits (b.toNat : Int)).toNat = ((a ^^^ b).toNat : Int) := by
  rw [bv_u32, bv_u32, wr_u32]
  have := (a ^^^ b).toNat_lt
  show ((a ^^^ b).toNat : Int) % _ = _
  omega
theorem shl_u32 (a : UInt32) {m : Int} {n : Nat} (h : m.toNat = n) : IntKind.u32.wrap ((a.toNat : Int) * 2 ^ (min m.toNat IntKind.u32.bits)) = ((shl32 a n).toNat : Int) := by
  subst h
  rw [wr_u32]
  show _ = ((UInt32.ofNat (a.toNat * 2 ^ min m.toNat 32)).toNat : Int)
  rw [UInt32.toNat_ofNat']
  have h : ((a.toNat : Int) * 2 ^ (min m.toNat IntKind.u32.bits)) = ((a.toNat * 2 ^ min m.toNat 32 : Nat) : Int) := by
    rw [Int.natCast_mul, Int.natCast_pow]
    rfl
  rw [h]
  omega
theorem shr_u32 (a : UInt32) {m : Int} {n : Nat} (h : m.toNat = n) : (a.toNat : Int).fdiv (2 ^ (min m.toNat IntKind.u32.bits)) = ((shr32 a n).toNat : Int) := by
  subst h
  show _ = ((UInt32.ofNat (a.toNat / 2 ^ min m.toNat 32)).toNat : Int)
  rw [UInt32.toNat_ofNat']
  have h : ((2 : Int) ^ (min m.toNat IntKind.u32.bits)) = ((2 ^ min m.toNat 32 : Nat) : Int) := by
    rw [Int.natCast_pow]
    rfl
  rw [h, ← Int.ofNat_fdiv]
  have h1 := a.toNat_lt
  have h2 := Nat.div_le_self a.toNat (2 ^ min m.toNat 32)
  generalize a.toNat / (2 ^ min m.toNat 32) = q at *
  omega
theorem ofNat_u32 (n : Nat) : IntKind.u32.wrap (n : Int) = ((UInt32.ofNat n).toNat : Int) := by rw [wr_u32, UInt32.toNat_ofNat']; omega
theorem ofInt_u32 (n : Int) : IntKind.u32.wrap n = ((UInt32.ofInt n).toNat : Int) := by
  rw [wr_u32]
  show _ = (((UInt32.ofNat (n % 2 ^ 32).toNat).toNat : Nat) : Int)
  rw [UInt32.toNat_ofNat']
  omega
theorem same_u32 (a : UInt32) : IntKind.u32.wrap (a.toNat : Int) = (a.toNat : Int) := by
  rw [wr_u32]
  have := a.toNat_lt
  omega
theorem compl_u32 (a : UInt32) : IntKind.u32.wrap (BitVec.ofInt IntKind.u32.bits IntKind.u32.max ^^^ BitVec.ofInt IntKind.u32.bits (a.toNat : Int)).toNat = ((~~~a).toNat : Int) := by
  rw [bv_u32, wr_u32]
  show (((BitVec.allOnes 32 ^^^ a.toBitVec).toNat : Nat) : Int) % 4294967296 = _
  rw [BitVec.allOnes_xor]
  have := (~~~a).toNat_lt
  show ((~~~a).toNat : Int) % _ = _
  omega
theorem conv_u32_u8 (a : UInt32) : IntKind.u8.wrap (a.toNat : Int) = ((a.toUInt8).toNat : Int) := by rw [wr_u8, UInt32.toNat_toUInt8]; omega
theorem conv_u32_u16 (a : UInt32) : IntKind.u16.wrap (a.toNat : Int) = ((a.toUInt16).toNat : Int) := by rw [wr_u16, UInt32.toNat_toUInt16]; omega
theorem conv_u32_u64 (a : UInt32) : IntKind.u64.wrap (a.toNat : Int) = ((a.toUInt64).toNat : Int) := by rw [wr_u64, UInt32.toNat_toUInt64]; have := a.toNat_lt; omega
theorem conv_u32_i64 (a : UInt32) : IntKind.i64.wrap (a.toNat : Int) = ((a.toNat : Nat) : Int) := by have := a.toNat_lt; exact Abs.wrap_i64 (by omega) (by omega)
theorem add_u64 (a b : UInt64) : IntKind.u64.wrap ((a.toNat : Int) + (b.toNat : Int)) = ((a + b).toNat : Int) := by rw [wr_u64, UInt64.toNat_add]; omega
theorem sub_u64 (a b : UInt64) : IntKind.u64.wrap ((a.toNat : Int) - (b.toNat : Int)) = ((a - b).toNat : Int) := by
  rw [wr_u64, UInt64.toNat_sub]
  have := a.toNat_lt
  have := b.toNat_lt
  omega
theorem mul_u64 (a b : UInt64) : IntKind.u64.wrap ((a.toNat : Int) * (b.toNat : Int)) = ((a * b).toNat : Int) := by rw [wr_u64, UInt64.toNat_mul, ← Int.natCast_mul]; omega
theorem quo_u64 (a b : UInt64) : IntKind.u64.wrap ((a.toNat : Int).tdiv (b.toNat : Int)) = ((a / b).toNat : Int) := by
  rw [wr_u64, UInt64.toNat_div, ← Int.ofNat_tdiv]
  have h1 := a.toNat_lt
  have h2 := Nat.div_le_self a.toNat b.toNat
  generalize a.toNat / b.toNat = q at *
  omega
theorem rem_u64 (a b : UInt64) : (a.toNat : Int).tmod (b.toNat : Int) = ((a % b).toNat : Int) := by rw [UInt64.toNat_mod]; exact (Int.ofNat_tmod _ _).symm
theorem bv_u64 (a : UInt64) : BitVec.ofInt IntKind.u64.bits (a.toNat : Int) = a.toBitVec := by
  apply BitVec.eq_of_toNat_eq
  have := a.toNat_lt
  have h : IntKind.u64.bits = 64 := rfl
  simp [h]
  rfl
theorem and_u64 (a b : UInt64) : IntKind.u64.wrap (BitVec.ofInt IntKind.u64.bits (a.toNat : Int) &&& BitVec.ofInt IntKind.u64.bits (b.toNat : Int)).toNat = ((a &&& b).toNat : Int) := by
  rw [bv_u64, bv_u64, wr_u64]
  have := (a &&& b).toNat_lt
  show ((a &&& b).toNat : Int) % _ = _
  omega
theorem or_u64 (a b : UInt64) : IntKind.u64.wrap (BitVec.ofInt IntKind.u64.bits (a.toNat : Int) ||| BitVec.ofInt IntKind.u64.bits (b.toNat : Int)).toNat = ((a ||| b).toNat : Int) := by
  rw [bv_u64, bv_u64, wr_u64]
  have := (a ||| b).toNat_lt
  show ((a ||| b).toNat : Int) % _ = _
  omega
theorem xor_u64 (a b : UInt64) : IntKind.u64.wrap (BitVec.ofInt IntKind.u64.bits (a.toNat : Int) ^^^ BitVec.ofInt IntKind.u64.bits (b.toNat : Int)).toNat = ((a ^^^ b).toNat : Int) := by
  rw [bv_u64, bv_u64, wr_u64]
  have := (a ^^^ b).toNat_lt
  show ((a ^^^ b).toNat : Int) % _ = _
  omega
theorem shl_u64 (a : UInt64) {m : Int} {n : Nat} (h : m.toNat = n) : IntKind.u64.wrap ((a.toNat : Int) * 2 ^ (min m.toNat IntKind.u64.bits)) = ((shl64 a n).toNat : Int) := by
  subst h
  rw [wr_u64]
  show _ = ((UInt64.ofNat (a.toNat * 2 ^ min m.toNat 64)).toNat : Int)
  rw [UInt64.toNat_ofNat']
  have h : ((a.toNat : Int) * 2 ^ (min m.toNat IntKind.u64.bits)) = ((a.toNat * 2 ^ min m.toNat 64 : Nat) : Int) := by
    rw [Int.natCast_mul, Int.natCast_pow]
    rfl
  rw [h]
  omega
theorem shr_u64 (a : UInt64) {m : Int} {n : Nat} (h : m.toNat = n) : (a.toNat : Int).fdiv (2 ^ (min m.toNat IntKind.u64.bits)) = ((shr64 a n).toNat : Int) := by
  subst h
  show _ = ((UInt64.ofNat (a.toNat / 2 ^ min m.toNat 64)).toNat : Int)
  rw [UInt64.toNat_ofNat']
  have h : ((2 : Int) ^ (min m.toNat IntKind.u64.bits)) = ((2 ^ min m.toNat 64 : Nat) : Int) := by
    rw [Int.natCast_pow]
    rfl
  rw [h, ← Int.ofNat_fdiv]
  have h1 := a.toNat_lt
  have h2 := Nat.div_le_self a.toNat (2 ^ min m.toNat 64)
  generalize a.toNat / (2 ^ min m.toNat 64) = q at *
  omega
theorem ofNat_u64 (n : Nat) : IntKind.u64.wrap (n : Int) = ((UInt64.ofNat n).toNat : Int) := by rw [wr_u64, UInt64.toNat_ofNat']; omega
theorem ofInt_u64 (n : Int) : IntKind.u64.wrap n = ((UInt64.ofInt n).toNat : Int) := by
  rw [wr_u64]
  show _ = (((UInt64.ofNat (n % 2 ^ 64).toNat).toNat : Nat) : Int)
  rw [UInt64.toNat_ofNat']
  omega
theorem same_u64 (a : UInt64) : IntKind.u64.wrap (a.toNat : Int) = (a.toNat : Int) := by
  rw [wr_u64]
  have := a.toNat_lt
  omega
theorem compl_u64 (a : UInt64) : IntKind.u64.wrap (BitVec.ofInt IntKind.u64.bits IntKind.u64.max ^^^ BitVec.ofInt IntKind.u64.bits (a.toNat : Int)).toNat = ((~~~a).toNat : Int) := by
  rw [bv_u64, wr_u64]
  show (((BitVec.allOnes 64 ^^^ a.toBitVec).toNat : Nat) : Int) % 18446744073709551616 = _
  rw [BitVec.allOnes_xor]
  have := (~~~a).toNat_lt
  show ((~~~a).toNat : Int) % _ = _
  omega
theorem conv_u64_u8 (a : UInt64) : IntKind.u8.wrap (a.toNat : Int) = ((a.toUInt8).toNat : Int) := by rw [wr_u8, UInt64.toNat_toUInt8]; omega
theorem conv_u64_u16 (a : UInt64) : IntKind.u16.wrap (a.toNat : Int) = ((a.toUInt16).toNat : Int) := by rw [wr_u16, UInt64.toNat_toUInt16]; omega
theorem conv_u64_u32 (a : UInt64) : IntKind.u32.wrap (a.toNat : Int) = ((a.toUInt32).toNat : Int) := by rw [wr_u32, UInt64.toNat_toUInt32]; omega
end Md
namespace Abs
abbrev Sv (l : List UInt8) : Value := .string ⟨l.toArray⟩
section
variable {P : Program} {s : ASt} {d : Option Nat} {ty t xT yT : TypeId} {pos : String} {af : Array Edge} {g : Option (Nat × Bool)} {x y c : Operand} {k k' : IntKind} {m n q : Int} {e sz bytes id : Nat}
theorem str_ext {a b : List UInt8} : ((⟨a.toArray⟩ : ByteArray) = ⟨b.toArray⟩) ↔ a = b := by
  constructor
  · intro h
    injection h with h
    exact congrArg Array.toList h
  · rintro rfl; rfl
theorem st_str_eq {a b : List UInt8} (hx : s.ev x = .one (.val (Sv a))) (hy : s.ev y = .one (.val (Sv b))) (hd : dOk s d = true) : Ev P [] s ⟨d, .binOp .eql xT x y yT, ty, pos, af, g⟩ (· = s.put d (.one (.val (.bool (decide (a = b)))))) :=
  ev_str_eq hx hy hd (decide_eq_decide.2 str_ext)
theorem st_str_ne {a b : List UInt8} (hx : s.ev x = .one (.val (Sv a))) (hy : s.ev y = .one (.val (Sv b))) (hd : dOk s d = true) : Ev P [] s ⟨d, .binOp .neq xT x y yT, ty, pos, af, g⟩ (· = s.put d (.one (.val (.bool (!(decide (a = b))))))) :=
  ev_str_ne hx hy hd (congrArg _ (decide_eq_decide.2 str_ext))
theorem ba_append (a b : List UInt8) : (⟨a.toArray⟩ : ByteArray) ++ (⟨b.toArray⟩ : ByteArray) = ⟨(a ++ b).toArray⟩ := by
  apply ByteArray.ext
  simp
theorem st_str_add {a b : List UInt8} (hx : s.ev x = .one (.val (Sv a))) (hy : s.ev y = .one (.val (Sv b))) (hd : dOk s d = true) (hg : a.length + b.length ≤ 4000000) : Ev P [] s ⟨d, .binOp .add xT x y yT, ty, pos, af, g⟩ (· = s.put d (.one (.val (Sv (a ++ b))))) := by
  have h := ev_str_add (P := P) (ty := ty) (pos := pos) (af := af) (g := g) (xT := xT) (yT := yT) hx hy hd (by show a.toArray.size + b.toArray.size ≤ _; simp; omega)
  rwa [ba_append] at h
theorem st_len_str {a : List UInt8} (hx : s.ev x = .one (.val (Sv a))) [ht : TStr P t] (hd : dOk s d = true) : Ev P [] s ⟨d, .call { callee := .builtin .len, args := #[x], argTypes := #[t] }, ty, pos, af, g⟩ (· = s.put d (.one (.val (.int .i64 ((a.length : Nat) : Int))))) :=
  ev_len_str hx hd
theorem st_index_str {a : List UInt8} {i : Int} {j : Nat} (hx : s.ev x = .one (.val (Sv a))) (hy : s.ev y = .one (.val (.int k i))) (hi : i = (j : Int)) (hj : j < a.length) [ht : TStr P t] (hd : dOk s d = true) :
    Ev P [] s ⟨d, .index t x y, ty, pos, af, g⟩ (· = s.put d (.one (.val (.int .u8 ((a.getD j 0).toNat : Int))))) := by
  have h := ev_index_str (P := P) (ty := ty) (pos := pos) (af := af) (g := g) (t := t) hx hy hi (show j < (⟨a.toArray⟩ : ByteArray).size from hj) hd
  have e : (⟨a.toArray⟩ : ByteArray)[j]'hj = a.getD j 0 := by
    show a.toArray[j] = _
    simp [List.getD, hj]
  rwa [e] at h
theorem ba_extract (a : List UInt8) {l h : Nat} (h2 : h ≤ a.length) : (⟨a.toArray⟩ : ByteArray).extract l h = ⟨((a.drop l).take (h - l)).toArray⟩ := by
  apply ByteArray.ext
  rw [ByteArray.data_extract]
  simp [List.extract_eq_take_drop]
theorem st_cut_both_s {a : List UInt8} {lo hi : Option Operand} {l h : Nat} (hx : s.ev x = .one (.val (Sv a))) (hl : Bnd s lo 0 l) (hh : Bnd s hi a.length h) (h1 : l ≤ h ∧ h ≤ a.length) [ht : TStr P t] (hd : dOk s d = true) :
    Ev P [] s ⟨d, .slice t x lo hi none, ty, pos, af, g⟩ (· = s.put d (.one (.val (Sv ((a.drop l).take (h - l)))))) := by
  have k := ev_slice_str (P := P) (ty := ty) (pos := pos) (af := af) (g := g) (t := t) hx hl (show Bnd s hi (⟨a.toArray⟩ : ByteArray).size h from hh) h1.1 h1.2 hd
  rwa [ba_extract a h1.2] at k
theorem st_cut_hi_s {a : List UInt8} {hi : Option Operand} {h : Nat} (hx : s.ev x = .one (.val (Sv a))) (hh : Bnd s hi a.length h) (h1 : h ≤ a.length) [ht : TStr P t] (hd : dOk s d = true) :
    Ev P [] s ⟨d, .slice t x none hi none, ty, pos, af, g⟩ (· = s.put d (.one (.val (Sv (a.take h))))) :=
  st_cut_both_s (l := 0) hx rfl hh ⟨Nat.zero_le _, h1⟩ hd
theorem st_cut_lo_s {a : List UInt8} {lo : Option Operand} {l : Nat} (hx : s.ev x = .one (.val (Sv a))) (hl : Bnd s lo 0 l) (h1 : l ≤ a.length) [ht : TStr P t] (hd : dOk s d = true) :
    Ev P [] s ⟨d, .slice t x lo none none, ty, pos, af, g⟩ (· = s.put d (.one (.val (Sv (a.drop l))))) := by
  have k := st_cut_both_s (P := P) (ty := ty) (pos := pos) (af := af) (g := g) (t := t) (hi := none) (h := a.length) hx hl rfl ⟨h1, Nat.le_refl _⟩ hd
  rwa [List.take_of_length_le (by simp)] at k
theorem st_conv_int {dd : TypeDesc} {i : Int} (hx : s.ev x = .one (.val (.int k i))) (hd : dOk s d = true) (hS : P.underlying xT = some dd) (hT : P.underlying yT = some (.int k')) (hq : k'.wrap i = q) : Ev P [] s ⟨d, .convert xT yT x, ty, pos, af, g⟩ (· = s.put d (.one (.val (.int k' q)))) := ev_conv_int hx hd hS hT hq
theorem st_bytes_str {a : List UInt8} (hx : s.ev x = .one (.val (Sv a))) (hS : P.underlying xT = some .string) (hT : P.underlying yT = some (.slice e)) (hE : P.underlying e = some (.int .u8)) (hm : a.length ≤ 4000000) (hd : dOk s d = true) :
    Ev P [] s ⟨d, .convert xT yT x, ty, pos, af, g⟩ (· = s.put d (.one (CV.by a))) := ev_bytes_str hx hS hT hE (maxLen_ge (show a.length ≤ _ by omega)) hd
theorem st_neg (hx : s.ev x = .one (.val (.int k n))) (hd : dOk s d = true) (hq : k.wrap (-n) = q) : Ev P [] s ⟨d, .unOp .neg xT x, ty, pos, af, g⟩ (· = s.put d (.one (.val (.int k q)))) :=
  ev_of_val hd rfl fun U a w hv M => by
    have h : (0 : Int) - n = -n := by omega
    simp [execOp, Op.unary, M.val hx, Op.intArith, h, hq]
theorem st_compl (hx : s.ev x = .one (.val (.int k n))) (hd : dOk s d = true) (hq : k.wrap (BitVec.ofInt k.bits k.max ^^^ BitVec.ofInt k.bits n).toNat = q) (hs : k.signed = false := by rfl) : Ev P [] s ⟨d, .unOp .xor xT x, ty, pos, af, g⟩ (· = s.put d (.one (.val (.int k q)))) :=
  ev_of_val hd rfl fun U a w hv M => by
    subst hq
    simp [execOp, Op.unary, M.val hx, Op.intBits, hs]
variable {α : Type} [Inhabited α] {f : α → List CV}
theorem st_cut_both {l : List α} {lo hi : Option Operand} {a b : Nat} (hs : ∀ x, (f x).length = sz) (hx : s.ev x = .one (.slc l.length (lsEl f l))) (hl : Bnd s lo 0 a) (hh : Bnd s hi l.length b) (h1 : a ≤ b ∧ b ≤ l.length) [TSl P t e sz bytes] (hd : dOk s d = true) :
    Ev P [] s ⟨d, .slice t x lo hi none, ty, pos, af, g⟩ (· = s.put d (.one (CV.ls f ((l.drop a).take (b - a))))) := st_cut l a b hs hx hl hh h1.1 h1.2 rfl hd
theorem st_cut_hi {l : List α} {hi : Option Operand} {b : Nat} (hs : ∀ x, (f x).length = sz) (hx : s.ev x = .one (.slc l.length (lsEl f l))) (hh : Bnd s hi l.length b) (h1 : b ≤ l.length) [TSl P t e sz bytes] (hd : dOk s d = true) :
    Ev P [] s ⟨d, .slice t x none hi none, ty, pos, af, g⟩ (· = s.put d (.one (CV.ls f (l.take b)))) := st_cut l 0 b hs hx rfl hh (Nat.zero_le _) h1 rfl hd
theorem st_cut_lo {l : List α} {lo : Option Operand} {a : Nat} (hs : ∀ x, (f x).length = sz) (hx : s.ev x = .one (.slc l.length (lsEl f l))) (hl : Bnd s lo 0 a) (h1 : a ≤ l.length) [TSl P t e sz bytes] (hd : dOk s d = true) :
    Ev P [] s ⟨d, .slice t x lo none none, ty, pos, af, g⟩ (· = s.put d (.one (CV.ls f (l.drop a)))) :=
  st_cut l a l.length hs hx hl rfl h1 (Nat.le_refl _) (List.take_of_length_le (by simp)) hd
end
end Abs
end Go.Proofs.Ytbnjdkpangmneaa
