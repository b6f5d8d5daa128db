/-
  WireTexts: its walk: for all arguments that read as data the law returns true, and nothing that was there is written. Conditions: none.
-/
import Derived.Test.YtbnjdkpangmneaaWlTexts
import Derived.Test.YtbnjdkpangmneaaWireQd
import Derived.Test.YtbnjdkpangmneaaAbsY
namespace Go.Proofs.Ytbnjdkpangmneaa
open Go.ChangeShapes Go.WideShapes Go.RowKit
open Abs Md
set_option linter.unusedVariables false
set_option maxRecDepth 10000
namespace WireTextsW
theorem op22 : Kit.Opens Try.prog 22 1 (rP (fun l => [CV.ls byC l]) (fun l => ∀ x ∈ l, (fun _ => True) x)) :=
  opens_p_slice (f := byC) (p := (fun _ => True)) (by decide) (fun _ => rfl) Try.underlying22 (by kernel_rfl) (opens_p_weaken (g := byC) (q := (fun _ => True)) (opens_p_u8 Try.underlying5 (by kernel_rfl)) (fun _ => rfl) (fun _ h => h))
abbrev r22 : Kit.Rel (List UInt8) := rP (fun l => [CV.ls byC l]) (fun l => ∀ x ∈ l, (fun _ => True) x)
theorem op23 : Kit.Opens Try.prog 23 1 (rP (fun l => [CV.ls c_Int l]) (fun l => ∀ x ∈ l, Md.I64 x)) :=
  opens_p_slice (f := c_Int) (p := Md.I64) (by decide) (fun _ => rfl) Try.underlying23 (by kernel_rfl) (opens_p_weaken (g := c_Int) (q := Md.I64) (opens_p_int Try.underlying3 (by kernel_rfl)) (fun _ => rfl) (fun _ h => h))
abbrev r23 : Kit.Rel (List Int) := rP (fun l => [CV.ls c_Int l]) (fun l => ∀ x ∈ l, Md.I64 x)
theorem op24 : Kit.Opens Try.prog 24 1 (rP (fun l => [CV.ls c_Str l]) (fun l => ∀ x ∈ l, (fun _ => True) x)) :=
  opens_p_slice (f := c_Str) (p := (fun _ => True)) (by decide) (fun _ => rfl) Try.underlying24 (by kernel_rfl) (opens_p_weaken (g := c_Str) (q := (fun _ => True)) (opens_p_str Try.underlying9 (by kernel_rfl)) (fun _ => rfl) (fun _ h => h))
abbrev r24 : Kit.Rel (List (List UInt8)) := rP (fun l => [CV.ls c_Str l]) (fun l => ∀ x ∈ l, (fun _ => True) x)
theorem walk (w : World) (A0 : Option Addr) (n0 c0 : Nat) (a0 : List UInt8) (w0 : WireTextsW.r22 w w.heap.size a0 [.slice A0 n0 c0]) (a1 : ByteArray) (w1 : a1.size ≤ maxLen) (A2 : Option Addr) (n2 c2 : Nat) (a2 : List Int) (w2 : WireTextsW.r23 w w.heap.size a2 [.slice A2 n2 c2]) (A3 : Option Addr) (n3 c3 : Nat) (a3 : List (List UInt8)) (w3 : WireTextsW.r24 w w.heap.size a3 [.slice A3 n3 c3]) (a4 : Int) (w4 : (Lit.int .i64 a4).wf = true) :
    Calls Try.prog 3 #[.slice A0 n0 c0, .string a1, .slice A2 n2 c2, .slice A3 n3 c3, .int .i64 a4] w fun e w' => e = .returned (.bool true) ∧ Below w.heap.size w w' := by
  obtain ⟨x1, rfl⟩ := str_of a1
  obtain ⟨k, hk⟩ := Md.WireTexts_law a0 x1 a2 a3 a4 w2.2 (i64_of w4)
  exact fnc_law (Md.actorgridlaw1_WireTexts_fn k a0 x1 a2 a3 a4 true hk) (.cons (in_p w0) (.cons (in_v rfl) (.cons (in_p w2) (.cons (in_p w3) (.cons (in_v rfl) (.nil))))))
end WireTextsW
end Go.Proofs.Ytbnjdkpangmneaa
