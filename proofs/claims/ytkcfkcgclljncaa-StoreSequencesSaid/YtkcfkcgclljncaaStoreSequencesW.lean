/-
  StoreSequences: its walk: for all arguments that read as data the law returns true, and nothing that was there is written. Conditions: none.
-/
import Derived.Test.YtkcfkcgclljncaaStorQ
import Derived.Test.YtkcfkcgclljncaaStorRs
import Derived.Test.YtkcfkcgclljncaaAbsY
namespace Go.Proofs.Ytkcfkcgclljncaa
open Go.ChangeShapes Go.WideShapes Go.RowKit
open Abs Md
set_option linter.unusedVariables false
set_option maxRecDepth 10000
namespace StoreSequencesW
theorem op24 : Kit.Opens Try.prog 24 1 (rP (fun l => [CV.ls byC l]) (fun l => ∀ x ∈ l, (fun _ => True) x)) :=
  opens_p_slice (f := byC) (p := (fun _ => True)) (by decide) (fun _ => rfl) Try.underlying24 (by kernel_rfl) (opens_p_weaken (g := byC) (q := (fun _ => True)) (opens_p_u8 Try.underlying5 (by kernel_rfl)) (fun _ => rfl) (fun _ h => h))
theorem op85 : Kit.Opens Try.prog 85 4 (rP c_Actorgridlaw28Act (fun _ => True)) := by
  refine ⟨by kernel_rfl, fun H enc w base spare held fuel cs x h => ?_⟩
  obtain ⟨ys, n, _, _, hlen, hyl, hf⟩ := DataW.trod_struct Try.underlying85 h
  have hl : cs.length = 4 := hlen.trans (by kernel_rfl)
  obtain ⟨b0, h0, q0⟩ := field_p (opens_p_u8 Try.underlying5 (by kernel_rfl)) (hf 0 _ rfl) (by rw [hyl]; decide)
  obtain ⟨b1, h1, q1⟩ := field_p op24 (hf 1 _ rfl) (by rw [hyl]; decide)
  obtain ⟨b2, h2, q2⟩ := field_p (opens_p_u8 Try.underlying5 (by kernel_rfl)) (hf 2 _ rfl) (by rw [hyl]; decide)
  obtain ⟨b3, h3, q3⟩ := field_p (opens_p_u8 Try.underlying5 (by kernel_rfl)) (hf 3 _ rfl) (by rw [hyl]; decide)
  exact ⟨⟨b0, b1, b2, b3⟩, all2_whole (all2_join h0 (all2_join h1 (all2_join h2 h3))) hl, trivial⟩
theorem op83 : Kit.Opens Try.prog 83 1 (rP (fun l => [CV.ls c_Actorgridlaw28Act l]) (fun l => ∀ x ∈ l, (fun _ => True) x)) :=
  opens_p_slice (f := c_Actorgridlaw28Act) (p := (fun _ => True)) (by decide) (fun _ => rfl) Try.underlying83 (by kernel_rfl) (opens_p_weaken (g := c_Actorgridlaw28Act) (q := (fun _ => True)) op85 (fun _ => rfl) (fun _ h => h))
abbrev r83 : Kit.Rel (List Md.Actorgridlaw28Act) := rP (fun l => [CV.ls c_Actorgridlaw28Act l]) (fun l => ∀ x ∈ l, (fun _ => True) x)
theorem walk (w : World) (a0 : Int) (w0 : (Lit.int .u16 a0).wf = true) (A1 : Option Addr) (n1 c1 : Nat) (a1 : List Md.Actorgridlaw28Act) (w1 : StoreSequencesW.r83 w w.heap.size a1 [.slice A1 n1 c1]) :
    Calls Try.prog 13 #[.int .u16 a0, .slice A1 n1 c1] w fun e w' => e = .returned (.bool true) ∧ Below w.heap.size w w' := by
  obtain ⟨x0, rfl⟩ := u16_of w0
  obtain ⟨k, hk⟩ := Md.StoreSequences_law x0 a1 
  exact fnc_law (Md.actorgridlaw28_StoreSequences_fn k x0 a1 true hk) (.cons (in_v rfl) (.cons (in_p w1) (.nil)))
end StoreSequencesW
end Go.Proofs.Ytkcfkcgclljncaa
