/-
  LexBlanks: its walk: for all arguments that read as data the law returns true, and nothing that was there is written. Conditions: none.
-/
import Derived.Test.YtjpiiejdaiaocaaDoorLexM
import Derived.Test.YtjpiiejdaiaocaaDoorLexPl
import Derived.Test.YtjpiiejdaiaocaaDoorAbsY
namespace Go.Proofs.YtjpiiejdaiaocaaDoor
open Go.ChangeShapes Go.WideShapes Go.RowKit
open Abs Md
set_option linter.unusedVariables false
set_option maxRecDepth 10000
namespace LexBlanksW
theorem opens_p_strl {P : Program} {t : TypeId} (ht : P.underlying t = some .string) (hc : P.cellsOf t = 1) : Kit.Opens P t 1 (rP (fun l : List UInt8 => [.val (Sv l)]) fun l => l.length ≤ 9223372036854775807) :=
  ⟨hc, fun H enc w base spare held fuel cs x h => by
    obtain ⟨s, e, _, hs⟩ := DataW.trod_string ht h
    obtain ⟨l, rfl⟩ := str_of s
    exact ⟨l, by rw [e]; exact .cons (.val _ rfl) .nil, hs⟩⟩
theorem op32 : Kit.Opens Tryd.prog 32 1 (rP (fun l => [CV.ls c_Str l]) (fun l => ∀ x ∈ l, (fun l => l.length ≤ 9223372036854775807) x)) :=
  opens_p_slice (f := c_Str) (p := (fun l => l.length ≤ 9223372036854775807)) (by decide) (fun _ => rfl) Tryd.underlying32 (by kernel_rfl) (opens_p_weaken (g := c_Str) (q := (fun l => l.length ≤ 9223372036854775807)) (opens_p_strl Tryd.underlying9 (by kernel_rfl)) (fun _ => rfl) (fun _ h => h))
abbrev r32 : Kit.Rel (List (List UInt8)) := rP (fun l => [CV.ls c_Str l]) (fun l => ∀ x ∈ l, (fun l => l.length ≤ 9223372036854775807) x)
theorem walk (w : World) (A0 : Option Addr) (n0 c0 : Nat) (a0 : List (List UInt8)) (w0 : LexBlanksW.r32 w w.heap.size a0 [.slice A0 n0 c0]) (a1 : ByteArray) (w1 : a1.size ≤ maxLen) (hT : Abs.Tabs [] (fun _ => undef) w) :
    Calls Tryd.prog 12 #[.slice A0 n0 c0, .string a1] w fun e w' => e = .returned (.bool true) ∧ Below w.heap.size w w' := by
  obtain ⟨x1, rfl⟩ := str_of a1
  obtain ⟨k, hk⟩ := Md.LexBlanks_law a0 x1 w0.2 (show x1.length ≤ maxLen from w1)
  exact fnc_law (Md.actorgridlaw17_LexBlanks_fn k a0 x1 true hk) (.cons (in_p w0) (.cons (in_v rfl) (.nil))) hT
end LexBlanksW
end Go.Proofs.YtjpiiejdaiaocaaDoor
