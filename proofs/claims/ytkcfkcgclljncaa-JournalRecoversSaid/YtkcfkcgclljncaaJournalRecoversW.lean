/-
  JournalRecovers: its walk: for all arguments that read as data the law returns true, and nothing that was there is written. Conditions: none.
-/
import Derived.Test.YtkcfkcgclljncaaJourL
import Derived.Test.YtkcfkcgclljncaaJourPc
import Derived.Test.YtkcfkcgclljncaaAbsY
namespace Go.Proofs.Ytkcfkcgclljncaa
open Go.ChangeShapes Go.WideShapes Go.RowKit
open Abs Md
set_option linter.unusedVariables false
set_option maxRecDepth 10000
namespace JournalRecoversW
theorem op24 : Kit.Opens Try.prog 24 1 (rP (fun l => [CV.ls byC l]) (fun l => ∀ x ∈ l, (fun _ => True) x)) :=
  opens_p_slice (f := byC) (p := (fun _ => True)) (by decide) (fun _ => rfl) Try.underlying24 (by kernel_rfl) (opens_p_weaken (g := byC) (q := (fun _ => True)) (opens_p_u8 Try.underlying5 (by kernel_rfl)) (fun _ => rfl) (fun _ h => h))
theorem op46 : Kit.Opens Try.prog 46 2 (rP c_JournalRecord (fun x => x.ok)) := by
  refine ⟨by kernel_rfl, fun H enc w base spare held fuel cs x h => ?_⟩
  obtain ⟨ys, n, _, _, hlen, hyl, hf⟩ := DataW.trod_struct Try.underlying46 h
  have hl : cs.length = 2 := hlen.trans (by kernel_rfl)
  obtain ⟨b0, h0, q0⟩ := field_p (opens_p_int Try.underlying3 (by kernel_rfl)) (hf 0 _ rfl) (by rw [hyl]; decide)
  obtain ⟨b1, h1, q1⟩ := field_p op24 (hf 1 _ rfl) (by rw [hyl]; decide)
  exact ⟨⟨b0, b1⟩, all2_whole (all2_join h0 h1) hl, (by show Md.JournalRecord.ok _; unfold Md.JournalRecord.ok; exact q0)⟩
theorem op51 : Kit.Opens Try.prog 51 1 (rP (fun l => [CV.ls c_JournalRecord l]) (fun l => ∀ x ∈ l, (fun x => x.ok) x)) :=
  opens_p_slice (f := c_JournalRecord) (p := (fun x => x.ok)) (by decide) (fun _ => rfl) Try.underlying51 (by kernel_rfl) (opens_p_weaken (g := c_JournalRecord) (q := (fun x => x.ok)) op46 (fun _ => rfl) (fun _ h => h))
abbrev r51 : Kit.Rel (List Md.JournalRecord) := rP (fun l => [CV.ls c_JournalRecord l]) (fun l => ∀ x ∈ l, (fun x => x.ok) x)
abbrev r24 : Kit.Rel (List UInt8) := rP (fun l => [CV.ls byC l]) (fun l => ∀ x ∈ l, (fun _ => True) x)
theorem op26 : Kit.Opens Try.prog 26 6 (rP c_Disk (fun x => x.ok)) := by
  refine ⟨by kernel_rfl, fun H enc w base spare held fuel cs x h => ?_⟩
  obtain ⟨ys, n, _, _, hlen, hyl, hf⟩ := DataW.trod_struct Try.underlying26 h
  have hl : cs.length = 6 := hlen.trans (by kernel_rfl)
  obtain ⟨b0, h0, q0⟩ := field_p op24 (hf 0 _ rfl) (by rw [hyl]; decide)
  obtain ⟨b1, h1, q1⟩ := field_p (opens_p_int Try.underlying3 (by kernel_rfl)) (hf 1 _ rfl) (by rw [hyl]; decide)
  obtain ⟨b2, h2, q2⟩ := field_p (opens_p_bool Try.underlying4 (by kernel_rfl)) (hf 2 _ rfl) (by rw [hyl]; decide)
  obtain ⟨b3, h3, q3⟩ := field_p (opens_p_int Try.underlying3 (by kernel_rfl)) (hf 3 _ rfl) (by rw [hyl]; decide)
  obtain ⟨b4, h4, q4⟩ := field_p (opens_p_int Try.underlying3 (by kernel_rfl)) (hf 4 _ rfl) (by rw [hyl]; decide)
  obtain ⟨b5, h5, q5⟩ := field_p (opens_p_bool Try.underlying4 (by kernel_rfl)) (hf 5 _ rfl) (by rw [hyl]; decide)
  exact ⟨⟨b0, b1, b2, b3, b4, b5⟩, all2_whole (all2_join h0 (all2_join h1 (all2_join h2 (all2_join h3 (all2_join h4 h5))))) hl, (by show Md.Disk.ok _; unfold Md.Disk.ok; exact ⟨q1, q3, q4⟩)⟩
abbrev r26 : Kit.Rel (Md.Disk) := rP c_Disk (fun x => x.ok)
theorem walk (w : World) (A0 : Option Addr) (n0 c0 : Nat) (a0 : List Md.JournalRecord) (w0 : JournalRecoversW.r51 w w.heap.size a0 [.slice A0 n0 c0]) (A1 : Option Addr) (n1 c1 : Nat) (a1 : List UInt8) (w1 : JournalRecoversW.r24 w w.heap.size a1 [.slice A1 n1 c1]) (v2 : Array Value) (a2 : Md.Disk) (w2 : JournalRecoversW.r26 w w.heap.size a2 v2.toList) :
    Calls Try.prog 8 #[.slice A0 n0 c0, .slice A1 n1 c1, .agg v2] w fun e w' => e = .returned (.bool true) ∧ Below w.heap.size w w' := by
  obtain ⟨k, hk⟩ := Md.JournalRecovers_law a0 a1 a2 w0.2 w2.2
  exact fnc_law (Md.actorgridlaw27_JournalRecovers_fn k a0 a1 a2 true hk) (.cons (in_p w0) (.cons (in_p w1) (.cons (in_agg w2.1) (.nil))))
end JournalRecoversW
end Go.Proofs.Ytkcfkcgclljncaa
