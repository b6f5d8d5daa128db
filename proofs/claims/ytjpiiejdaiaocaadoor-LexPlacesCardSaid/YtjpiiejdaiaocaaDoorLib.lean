/-
  The called functions of Go's library: where a model gives a value the function returns what reads as it. Condition of each: the model gives a value.
-/
import Derived.Test.YtjpiiejdaiaocaaDoorLibM
import Derived.Test.YtjpiiejdaiaocaaDoorLibS
import Derived.Test.YtjpiiejdaiaocaaDoorAbsU
import Derived.Lib.AtoiErrMem
import Derived.Lib.AppendIntMem
namespace Go.Proofs.YtjpiiejdaiaocaaDoor
open Go.ChangeShapes Go.WideShapes Go.RowKit
open Abs
set_option linter.unusedVariables false
set_option linter.unusedSimpArgs false
namespace Md
theorem strings_IndexByte_fn (k : Nat) (a0 : List UInt8) (a1 : UInt8) (r : Int) (h : strings_IndexByte k a0 a1 = some r) : FnC Tryd.prog 64 [.one (.val (Sv a0)), .one (.val (.int .u8 (a1.toNat : Int)))] [] (Det (vI r) []) := by
  cases Option.some.inj h
  refine fnc_val [Sv a0, .int .u8 (a1.toNat : Int)] (fun v => v = .int .i64 (Lib.indexByte a0 a1)) (by rintro v h hv A w rfl; exact RepC.val _ rfl) fun w _ => ?_
  refine (Any.strings_IndexByte Lib_lays137 ⟨a0.toArray⟩ (a1.toNat : Int) w).mono ?_
  rintro e w' ⟨rfl, rfl⟩
  exact ⟨_, rfl, by simp, Below.refl _ _⟩
theorem internal_stringslite_Index_fn (k : Nat) (a0 a1 : List UInt8) (r : Int) (h : internal_stringslite_Index k a0 a1 = some r) : FnC Tryd.prog 89 [.one (.val (Sv a0)), .one (.val (Sv a1))] [] (Det (vI r) []) := by
  obtain ⟨g, h⟩ := Md.ifp_s h
  cases Option.some.inj h
  obtain ⟨c, rfl⟩ : ∃ c, a1 = [c] := by
    cases a1 with
    | nil => cases g
    | cons c l => cases l with
      | nil => exact ⟨c, rfl⟩
      | cons d l => simp at g
  refine fnc_val [Sv a0, Sv [c]] (fun v => v = .int .i64 (Lib.indexByte a0 c)) (by rintro v h hv A w rfl; exact RepC.val _ rfl) fun w _ => ?_
  refine (Any.stringslite_Index_one Lib_lays219 ⟨a0.toArray⟩ c w).mono ?_
  rintro e w' ⟨rfl, rfl⟩
  exact ⟨_, rfl, rfl, Below.refl _ _⟩
theorem strings_HasPrefix_fn (k : Nat) (a0 a1 : List UInt8) (r : Bool) (h : strings_HasPrefix k a0 a1 = some r) : FnC Tryd.prog 65 [.one (.val (Sv a0)), .one (.val (Sv a1))] [] (Det (vB r) []) := by
  cases Option.some.inj h
  refine fnc_val [Sv a0, Sv a1] (fun v => v = .bool (Lib.hasPrefix a0 a1)) (by rintro v h hv A w rfl; exact RepC.val _ rfl) fun w _ => ?_
  refine (Any.strings_HasPrefix Lib_lays99 ⟨a0.toArray⟩ ⟨a1.toArray⟩ w).mono ?_
  rintro e w' ⟨rfl, rfl⟩
  exact ⟨_, rfl, rfl, Below.refl _ _⟩
theorem tab_var {w : World} {nm : String} {b : Nat} {p : Array Value → Prop} (hg : Tryd.prog.globalNamed nm = some b) (hp : tabAt b = some p) (ht : Tabs [] (fun _ => undef) w) : ∃ cs, w.var? Tryd.prog nm = some cs ∧ p cs := by
  obtain ⟨⟨cs, T, x, h1, h2⟩, _⟩ := ht b p hp
  exact ⟨cs, by simp [World.var?, hg, h1], h2⟩
theorem tab_cell {w : World} {b : Nat} (hp : tabAt b = some (fun cs => ∃ ev, cs = #[ev] ∧ (ev = .nilIface ∨ ∃ tp q, ev = .iface tp q))) (ht : Tabs [] (fun _ => undef) w) : ∃ ev, w.cell? ⟨b, 0, none⟩ = some ev ∧ (ev = .nilIface ∨ ∃ tp q, ev = .iface tp q) := by
  obtain ⟨⟨cs, T, x, h1, ev, rfl, h3⟩, _⟩ := ht b _ hp
  exact ⟨ev, (cell_of_row w b 0 #[ev] T x h1).trans rfl, h3⟩
theorem below_bytes (w : World) (e : TypeId) (t : ByteArray) : Below w.heap.size w (Lib.bytesWorld w e t) := by
  exact Lib.bytesWorld_below w e t
end Md
end Go.Proofs.YtjpiiejdaiaocaaDoor
