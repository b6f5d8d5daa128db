/-
  LexPlaces: its walk: for all arguments that read as data the law returns true, and nothing that was there is written. Conditions: none.
-/
import Derived.Test.YtjpiiejdaiaocaaDoorLexM
import Derived.Test.YtjpiiejdaiaocaaDoorLexPl
import Derived.Test.YtjpiiejdaiaocaaDoorAbsY
namespace Go.Proofs.YtjpiiejdaiaocaaDoor
open Go.ChangeShapes Go.WideShapes Go.RowKit
open Abs Md
set_option linter.unusedVariables false
set_option maxRecDepth 10000
namespace LexPlacesW
theorem opens_p_strl {P : Program} {t : TypeId} (ht : P.underlying t = some .string) (hc : P.cellsOf t = 1) : Kit.Opens P t 1 (rP (fun l : List UInt8 => [.val (Sv l)]) fun l => l.length ≤ 9223372036854775807) :=
  ⟨hc, fun H enc w base spare held fuel cs x h => by
    obtain ⟨s, e, _, hs⟩ := DataW.trod_string ht h
    obtain ⟨l, rfl⟩ := str_of s
    exact ⟨l, by rw [e]; exact .cons (.val _ rfl) .nil, hs⟩⟩

theorem walk (w : World) (a0 : ByteArray) (w0 : a0.size ≤ maxLen) (hT : Abs.Tabs [] (fun _ => undef) w) :
    Calls Tryd.prog 13 #[.string a0] w fun e w' => e = .returned (.bool true) ∧ Below w.heap.size w w' := by
  obtain ⟨x0, rfl⟩ := str_of a0
  obtain ⟨k, hk⟩ := Md.LexPlaces_law x0 (show x0.length ≤ maxLen from w0)
  exact fnc_law (Md.actorgridlaw17_LexPlaces_fn k x0 true hk) (.cons (in_v rfl) (.nil)) hT
end LexPlacesW
end Go.Proofs.YtjpiiejdaiaocaaDoor
