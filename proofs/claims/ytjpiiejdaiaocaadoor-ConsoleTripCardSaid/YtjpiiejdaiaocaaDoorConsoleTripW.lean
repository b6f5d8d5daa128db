/-
  ConsoleTrip: its walk: for all arguments that read as data the law returns true, and nothing that was there is written. Conditions: none.
-/
import Derived.Test.YtjpiiejdaiaocaaDoorConsL
import Derived.Test.YtjpiiejdaiaocaaDoorConsPl
import Derived.Test.YtjpiiejdaiaocaaDoorAbsY
namespace Go.Proofs.YtjpiiejdaiaocaaDoor
open Go.ChangeShapes Go.WideShapes Go.RowKit
open Abs Md
set_option linter.unusedVariables false
set_option maxRecDepth 10000
namespace ConsoleTripW
theorem opens_p_strl {P : Program} {t : TypeId} (ht : P.underlying t = some .string) (hc : P.cellsOf t = 1) : Kit.Opens P t 1 (rP (fun l : List UInt8 => [.val (Sv l)]) fun l => l.length ≤ 9223372036854775807) :=
  ⟨hc, fun H enc w base spare held fuel cs x h => by
    obtain ⟨s, e, _, hs⟩ := DataW.trod_string ht h
    obtain ⟨l, rfl⟩ := str_of s
    exact ⟨l, by rw [e]; exact .cons (.val _ rfl) .nil, hs⟩⟩

theorem walk (w : World) (a0 : Int) (w0 : (Lit.int .u8 a0).wf = true) (a1 : Int) (w1 : (Lit.int .u8 a1).wf = true) (a2 : Int) (w2 : (Lit.int .u8 a2).wf = true) (a3 : Int) (w3 : (Lit.int .u8 a3).wf = true) (a4 : ByteArray) (w4 : a4.size ≤ maxLen) (a5 : Int) (w5 : (Lit.int .u64 a5).wf = true) (hT : Abs.Tabs [] (fun _ => undef) w) :
    Calls Tryd.prog 6 #[.int .u8 a0, .int .u8 a1, .int .u8 a2, .int .u8 a3, .string a4, .int .u64 a5] w fun e w' => e = .returned (.bool true) ∧ Below w.heap.size w w' := by
  obtain ⟨x0, rfl⟩ := u8_of w0
  obtain ⟨x1, rfl⟩ := u8_of w1
  obtain ⟨x2, rfl⟩ := u8_of w2
  obtain ⟨x3, rfl⟩ := u8_of w3
  obtain ⟨x4, rfl⟩ := str_of a4
  obtain ⟨x5, rfl⟩ := u64_of w5
  obtain ⟨k, hk⟩ := Md.ConsoleTrip_law x0 x1 x2 x3 x4 x5 (show x4.length ≤ maxLen from w4)
  exact fnc_law (Md.actorgridlaw41_ConsoleTrip_fn k x0 x1 x2 x3 x4 x5 true hk) (.cons (in_v rfl) (.cons (in_v rfl) (.cons (in_v rfl) (.cons (in_v rfl) (.cons (in_v rfl) (.cons (in_v rfl) (.nil))))))) hT
end ConsoleTripW
end Go.Proofs.YtjpiiejdaiaocaaDoor
