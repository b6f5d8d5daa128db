/-
  DERIVED. GIVEN WITH THE SEED: THE CARDS: each row of YtbijabmjbgplbaaGreatDoorRows.lean that lists a variable, with what it lists TIED to the program's text (the seventh form; the later family's looks); each row that meets fmt, with fmt's text TOLD by the authors' own Lean function (tested against real Go, not proved from fmt's source: count such statements apart). THE CARD IS WHAT COUNTS. Prove the row's statement (the work); the ties are given (YtbijabmjbgplbaaGreatDoorTie.lean); close each card by the builder's one call (the guide's Derived/Test/ToyasCard.lean, 'card_holds'). Laid BY PROGRAM, IN A SANDBOX (cutbox-door.mjs). By AI agents, Wed Nov 11 2026. No macro, syntax, notation, axiom, sorry.
-/
import Derived.Test.YtbijabmjbgplbaaGreatDoorRows
import GoSem.ClaimSeven
namespace Go.Proofs.YtbijabmjbgplbaaGreatDoor
namespace Rows

/-- THE TIED CARD OF 'actorgridtop.TopLanguage'. -/
def topLanguageCard : Claim7 := { stood := { row := topLanguageRow, standIns := [], harness := (true, "725004583412e9a7547e1f4f6fa1d9eee5b1e72393d923c375259f4f8255e9fa"), looks := true }, kinds := [], alts := [], laidByText := true, laidKinds := [.data, .data, .data, .sentinel, .sentinel], laidTests := true, laidLooks := .later }
def TopLanguageCardSaid : Prop := Claim7.holds Tryz.pinned (.plain (OpenSpec.ofChange topLanguageSpec)) topLanguageCard

/-- THE SECOND FORM's CARD OF 'actorgridtop.TopLanguage'. -/
def topLanguageUptoCard : Claim7 := { stood := { row := topLanguageUptoRow, standIns := [], harness := (true, "725004583412e9a7547e1f4f6fa1d9eee5b1e72393d923c375259f4f8255e9fa"), looks := true }, kinds := [], alts := [], laidByText := true, laidKinds := [.data, .data, .data, .sentinel, .sentinel], laidTests := true, laidLooks := .later }
def TopLanguageUptoCardSaid : Prop := Claim7.holds Tryz.pinned (.plain (OpenSpec.upto topLanguageSpec)) topLanguageUptoCard
end Rows
end Go.Proofs.YtbijabmjbgplbaaGreatDoor
