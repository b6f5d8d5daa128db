/-
  JournalContinues: its walk: for all arguments that read as data the law returns true, and nothing that was there is written. Conditions: none.
-/
import Derived.Test.YtkcfkcgclljncaaJourM
import Derived.Test.YtkcfkcgclljncaaJourPd
import Derived.Test.YtkcfkcgclljncaaAbsY
namespace Go.Proofs.Ytkcfkcgclljncaa
open Go.ChangeShapes Go.WideShapes Go.RowKit
open Abs Md
set_option linter.unusedVariables false
set_option maxRecDepth 10000
namespace JournalContinuesW
theorem op24 : Kit.Opens Try.prog 24 1 (rP (fun l => [CV.ls byC l]) (fun l => ∀ x ∈ l, (fun _ => True) x)) :=
  opens_p_slice (f := byC) (p := (fun _ => True)) (by decide) (fun _ => rfl) Try.underlying24 (by kernel_rfl) (opens_p_weaken (g := byC) (q := (fun _ => True)) (opens_p_u8 Try.underlying5 (by kernel_rfl)) (fun _ => rfl) (fun _ h => h))
theorem op22 : Kit.Opens Try.prog 22 1 (rP (fun l => [CV.ls c_LU8 l]) (fun l => ∀ x ∈ l, (fun l => ∀ x ∈ l, (fun _ => True) x) x)) :=
  opens_p_slice (f := c_LU8) (p := (fun l => ∀ x ∈ l, (fun _ => True) x)) (by decide) (fun _ => rfl) Try.underlying22 (by kernel_rfl) (opens_p_weaken (g := c_LU8) (q := (fun l => ∀ x ∈ l, (fun _ => True) x)) op24 (fun _ => rfl) (fun _ h => h))
abbrev r22 : Kit.Rel (List (List UInt8)) := rP (fun l => [CV.ls c_LU8 l]) (fun l => ∀ x ∈ l, (fun l => ∀ x ∈ l, (fun _ => True) x) x)
theorem walk (w : World) (A0 : Option Addr) (n0 c0 : Nat) (a0 : List (List UInt8)) (w0 : JournalContinuesW.r22 w w.heap.size a0 [.slice A0 n0 c0]) (A1 : Option Addr) (n1 c1 : Nat) (a1 : List (List UInt8)) (w1 : JournalContinuesW.r22 w w.heap.size a1 [.slice A1 n1 c1]) (a2 : Int) (w2 : (Lit.int .u8 a2).wf = true) (a3 : Int) (w3 : (Lit.int .u8 a3).wf = true) :
    Calls Try.prog 10 #[.slice A0 n0 c0, .slice A1 n1 c1, .int .u8 a2, .int .u8 a3] w fun e w' => e = .returned (.bool true) ∧ Below w.heap.size w w' := by
  obtain ⟨x2, rfl⟩ := u8_of w2
  obtain ⟨x3, rfl⟩ := u8_of w3
  obtain ⟨k, hk⟩ := Md.JournalContinues_law a0 a1 x2 x3 
  exact fnc_law (Md.actorgridlaw27_JournalContinues_fn k a0 a1 x2 x3 true hk) (.cons (in_p w0) (.cons (in_p w1) (.cons (in_v rfl) (.cons (in_v rfl) (.nil)))))
end JournalContinuesW
end Go.Proofs.Ytkcfkcgclljncaa
