/-
  ConsoleStrict: its walk: for all arguments that read as data the law returns true, and nothing that was there is written. Conditions: none.
-/
import Derived.Test.YtjpiiejdaiaocaaDoorConsM
import Derived.Test.YtjpiiejdaiaocaaDoorConsPl
import Derived.Test.YtjpiiejdaiaocaaDoorAbsY
namespace Go.Proofs.YtjpiiejdaiaocaaDoor
open Go.ChangeShapes Go.WideShapes Go.RowKit
open Abs Md
set_option linter.unusedVariables false
set_option maxRecDepth 10000
namespace ConsoleStrictW
theorem opens_p_strl {P : Program} {t : TypeId} (ht : P.underlying t = some .string) (hc : P.cellsOf t = 1) : Kit.Opens P t 1 (rP (fun l : List UInt8 => [.val (Sv l)]) fun l => l.length ≤ 9223372036854775807) :=
  ⟨hc, fun H enc w base spare held fuel cs x h => by
    obtain ⟨s, e, _, hs⟩ := DataW.trod_string ht h
    obtain ⟨l, rfl⟩ := str_of s
    exact ⟨l, by rw [e]; exact .cons (.val _ rfl) .nil, hs⟩⟩

theorem walk (w : World) (a0 : ByteArray) (w0 : a0.size ≤ maxLen) (a1 : Int) (w1 : (Lit.int .u8 a1).wf = true) (a2 : Int) (w2 : (Lit.int .u8 a2).wf = true) (a3 : Int) (w3 : (Lit.int .u8 a3).wf = true) (a4 : Int) (w4 : (Lit.int .u8 a4).wf = true) (a5 : ByteArray) (w5 : a5.size ≤ maxLen) (a6 : Int) (w6 : (Lit.int .u64 a6).wf = true) (a7 : Int) (w7 : (Lit.int .i64 a7).wf = true) (a8 : Int) (w8 : (Lit.int .u8 a8).wf = true) (hT : Abs.Tabs [] (fun _ => undef) w) :
    Calls Tryd.prog 8 #[.string a0, .int .u8 a1, .int .u8 a2, .int .u8 a3, .int .u8 a4, .string a5, .int .u64 a6, .int .i64 a7, .int .u8 a8] w fun e w' => e = .returned (.bool true) ∧ Below w.heap.size w w' := by
  obtain ⟨x0, rfl⟩ := str_of a0
  obtain ⟨x1, rfl⟩ := u8_of w1
  obtain ⟨x2, rfl⟩ := u8_of w2
  obtain ⟨x3, rfl⟩ := u8_of w3
  obtain ⟨x4, rfl⟩ := u8_of w4
  obtain ⟨x5, rfl⟩ := str_of a5
  obtain ⟨x6, rfl⟩ := u64_of w6
  obtain ⟨x8, rfl⟩ := u8_of w8
  obtain ⟨k, hk⟩ := Md.ConsoleStrict_law x0 x1 x2 x3 x4 x5 x6 a7 x8 (show x0.length ≤ maxLen from w0) (show x5.length ≤ maxLen from w5) (i64_of w7)
  exact fnc_law (Md.actorgridlaw41_ConsoleStrict_fn k x0 x1 x2 x3 x4 x5 x6 a7 x8 true hk) (.cons (in_v rfl) (.cons (in_v rfl) (.cons (in_v rfl) (.cons (in_v rfl) (.cons (in_v rfl) (.cons (in_v rfl) (.cons (in_v rfl) (.cons (in_v rfl) (.cons (in_v rfl) (.nil)))))))))) hT
end ConsoleStrictW
end Go.Proofs.YtjpiiejdaiaocaaDoor
