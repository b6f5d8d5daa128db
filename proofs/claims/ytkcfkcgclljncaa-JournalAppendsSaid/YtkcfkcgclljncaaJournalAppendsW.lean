/-
  JournalAppends: its walk: for all arguments that read as data the law returns true, and nothing that was there is written. Conditions: none.
-/
import Derived.Test.YtkcfkcgclljncaaJourL
import Derived.Test.YtkcfkcgclljncaaJourPc
import Derived.Test.YtkcfkcgclljncaaAbsY
namespace Go.Proofs.Ytkcfkcgclljncaa
open Go.ChangeShapes Go.WideShapes Go.RowKit
open Abs Md
set_option linter.unusedVariables false
set_option maxRecDepth 10000
namespace JournalAppendsW
theorem op24 : Kit.Opens Try.prog 24 1 (rP (fun l => [CV.ls byC l]) (fun l => ∀ x ∈ l, (fun _ => True) x)) :=
  opens_p_slice (f := byC) (p := (fun _ => True)) (by decide) (fun _ => rfl) Try.underlying24 (by kernel_rfl) (opens_p_weaken (g := byC) (q := (fun _ => True)) (opens_p_u8 Try.underlying5 (by kernel_rfl)) (fun _ => rfl) (fun _ h => h))
theorem op26 : Kit.Opens Try.prog 26 6 (rP c_Disk (fun x => x.ok)) := by
  refine ⟨by kernel_rfl, fun H enc w base spare held fuel cs x h => ?_⟩
  obtain ⟨ys, n, _, _, hlen, hyl, hf⟩ := DataW.trod_struct Try.underlying26 h
  have hl : cs.length = 6 := hlen.trans (by kernel_rfl)
  obtain ⟨b0, h0, q0⟩ := field_p op24 (hf 0 _ rfl) (by rw [hyl]; decide)
  obtain ⟨b1, h1, q1⟩ := field_p (opens_p_int Try.underlying3 (by kernel_rfl)) (hf 1 _ rfl) (by rw [hyl]; decide)
  obtain ⟨b2, h2, q2⟩ := field_p (opens_p_bool Try.underlying4 (by kernel_rfl)) (hf 2 _ rfl) (by rw [hyl]; decide)
  obtain ⟨b3, h3, q3⟩ := field_p (opens_p_int Try.underlying3 (by kernel_rfl)) (hf 3 _ rfl) (by rw [hyl]; decide)
  obtain ⟨b4, h4, q4⟩ := field_p (opens_p_int Try.underlying3 (by kernel_rfl)) (hf 4 _ rfl) (by rw [hyl]; decide)
  obtain ⟨b5, h5, q5⟩ := field_p (opens_p_bool Try.underlying4 (by kernel_rfl)) (hf 5 _ rfl) (by rw [hyl]; decide)
  exact ⟨⟨b0, b1, b2, b3, b4, b5⟩, all2_whole (all2_join h0 (all2_join h1 (all2_join h2 (all2_join h3 (all2_join h4 h5))))) hl, (by show Md.Disk.ok _; unfold Md.Disk.ok; exact ⟨q1, q3, q4⟩)⟩
abbrev r26 : Kit.Rel (Md.Disk) := rP c_Disk (fun x => x.ok)
theorem op46 : Kit.Opens Try.prog 46 2 (rP c_JournalRecord (fun x => x.ok)) := by
  refine ⟨by kernel_rfl, fun H enc w base spare held fuel cs x h => ?_⟩
  obtain ⟨ys, n, _, _, hlen, hyl, hf⟩ := DataW.trod_struct Try.underlying46 h
  have hl : cs.length = 2 := hlen.trans (by kernel_rfl)
  obtain ⟨b0, h0, q0⟩ := field_p (opens_p_int Try.underlying3 (by kernel_rfl)) (hf 0 _ rfl) (by rw [hyl]; decide)
  obtain ⟨b1, h1, q1⟩ := field_p op24 (hf 1 _ rfl) (by rw [hyl]; decide)
  exact ⟨⟨b0, b1⟩, all2_whole (all2_join h0 h1) hl, (by show Md.JournalRecord.ok _; unfold Md.JournalRecord.ok; exact q0)⟩
abbrev r46 : Kit.Rel (Md.JournalRecord) := rP c_JournalRecord (fun x => x.ok)
theorem walk (w : World) (v0 : Array Value) (a0 : Md.Disk) (w0 : JournalAppendsW.r26 w w.heap.size a0 v0.toList) (v1 : Array Value) (a1 : Md.JournalRecord) (w1 : JournalAppendsW.r46 w w.heap.size a1 v1.toList) :
    Calls Try.prog 6 #[.agg v0, .agg v1] w fun e w' => e = .returned (.bool true) ∧ Below w.heap.size w w' := by
  obtain ⟨k, hk⟩ := Md.JournalAppends_law a0 a1 w0.2 w1.2
  exact fnc_law (Md.actorgridlaw27_JournalAppends_fn k a0 a1 true hk) (.cons (in_agg w0.1) (.cons (in_agg w1.1) (.nil)))
end JournalAppendsW
end Go.Proofs.Ytkcfkcgclljncaa
