/-
  ConsoleCommands: its walk: for all arguments that read as data the law returns true, and nothing that was there is written. Conditions: none.
-/
import Derived.Test.YtjpiiejdaiaocaaDoorConsL
import Derived.Test.YtjpiiejdaiaocaaDoorConsPl
import Derived.Test.YtjpiiejdaiaocaaDoorAbsY
namespace Go.Proofs.YtjpiiejdaiaocaaDoor
open Go.ChangeShapes Go.WideShapes Go.RowKit
open Abs Md
set_option linter.unusedVariables false
set_option maxRecDepth 10000
namespace ConsoleCommandsW
theorem opens_p_strl {P : Program} {t : TypeId} (ht : P.underlying t = some .string) (hc : P.cellsOf t = 1) : Kit.Opens P t 1 (rP (fun l : List UInt8 => [.val (Sv l)]) fun l => l.length ≤ 9223372036854775807) :=
  ⟨hc, fun H enc w base spare held fuel cs x h => by
    obtain ⟨s, e, _, hs⟩ := DataW.trod_string ht h
    obtain ⟨l, rfl⟩ := str_of s
    exact ⟨l, by rw [e]; exact .cons (.val _ rfl) .nil, hs⟩⟩
theorem op23 : Kit.Opens Tryd.prog 23 2 (rP c_Ref (fun x => x.ok)) := by
  refine ⟨by kernel_rfl, fun H enc w base spare held fuel cs x h => ?_⟩
  obtain ⟨ys, n, _, _, hlen, hyl, hf⟩ := DataW.trod_struct Tryd.underlying23 h
  have hl : cs.length = 2 := hlen.trans (by kernel_rfl)
  obtain ⟨b0, h0, q0⟩ := field_p (opens_p_strl Tryd.underlying9 (by kernel_rfl)) (hf 0 _ rfl) (by rw [hyl]; decide)
  obtain ⟨b1, h1, q1⟩ := field_p (opens_p_strl Tryd.underlying9 (by kernel_rfl)) (hf 1 _ rfl) (by rw [hyl]; decide)
  exact ⟨⟨b0, b1⟩, all2_whole (all2_join h0 h1) hl, (by show Md.Ref.ok _; unfold Md.Ref.ok; exact ⟨q0, q1⟩)⟩
theorem op25 : Kit.Opens Tryd.prog 25 6 (rP c_ConsoleCommand (fun x => x.ok)) := by
  refine ⟨by kernel_rfl, fun H enc w base spare held fuel cs x h => ?_⟩
  obtain ⟨ys, n, _, _, hlen, hyl, hf⟩ := DataW.trod_struct Tryd.underlying25 h
  have hl : cs.length = 6 := hlen.trans (by kernel_rfl)
  obtain ⟨b0, h0, q0⟩ := field_p (opens_p_int Tryd.underlying3 (by kernel_rfl)) (hf 0 _ rfl) (by rw [hyl]; decide)
  obtain ⟨b1, h1, q1⟩ := field_p (opens_p_strl Tryd.underlying9 (by kernel_rfl)) (hf 1 _ rfl) (by rw [hyl]; decide)
  obtain ⟨b2, h2, q2⟩ := field_p op23 (hf 2 _ rfl) (by rw [hyl]; decide)
  obtain ⟨b3, h3, q3⟩ := field_p (opens_p_strl Tryd.underlying9 (by kernel_rfl)) (hf 3 _ rfl) (by rw [hyl]; decide)
  obtain ⟨b4, h4, q4⟩ := field_p (opens_p_int Tryd.underlying3 (by kernel_rfl)) (hf 4 _ rfl) (by rw [hyl]; decide)
  exact ⟨⟨b0, b1, b2, b3, b4⟩, all2_whole (all2_join h0 (all2_join h1 (all2_join h2 (all2_join h3 h4)))) hl, (by show Md.ConsoleCommand.ok _; unfold Md.ConsoleCommand.ok; exact ⟨q0, q1, q2, q3, q4⟩)⟩
abbrev r25 : Kit.Rel (Md.ConsoleCommand) := rP c_ConsoleCommand (fun x => x.ok)
theorem walk (w : World) (v0 : Array Value) (a0 : Md.ConsoleCommand) (w0 : ConsoleCommandsW.r25 w w.heap.size a0 v0.toList) (a1 : ByteArray) (w1 : a1.size ≤ maxLen) (hT : Abs.Tabs [] (fun _ => undef) w) :
    Calls Tryd.prog 3 #[.agg v0, .string a1] w fun e w' => e = .returned (.bool true) ∧ Below w.heap.size w w' := by
  obtain ⟨x1, rfl⟩ := str_of a1
  obtain ⟨k, hk⟩ := Md.ConsoleCommands_law a0 x1 w0.2 (show x1.length ≤ maxLen from w1)
  exact fnc_law (Md.actorgridlaw41_ConsoleCommands_fn k a0 x1 true hk) (.cons (in_agg w0.1) (.cons (in_v rfl) (.nil))) hT
end ConsoleCommandsW
end Go.Proofs.YtjpiiejdaiaocaaDoor
