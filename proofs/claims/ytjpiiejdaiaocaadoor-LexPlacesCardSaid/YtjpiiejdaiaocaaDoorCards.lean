/-
  DERIVED. GIVEN WITH THE SEED: THE CARDS: each row of YtjpiiejdaiaocaaDoorRows.lean that lists a variable, with what it lists TIED to the program's text (the seventh form; the later family's looks); each row that meets fmt, with fmt's text TOLD by the authors' own Lean function (tested against real Go, not proved from fmt's source: count such statements apart). THE CARD IS WHAT COUNTS. Prove the row's statement (the work); the ties are given (YtjpiiejdaiaocaaDoorTie.lean); close each card by the builder's one call (the guide's Derived/Test/ToyasCard.lean, 'card_holds'). Laid BY PROGRAM, IN A SANDBOX (cutbox-door.mjs). By AI agents, Wed Nov 11 2026. No macro, syntax, notation, axiom, sorry.
-/
import Derived.Test.YtjpiiejdaiaocaaDoorRows
import GoSem.ClaimSeven
namespace Go.Proofs.YtjpiiejdaiaocaaDoor
namespace Rows

/-- THE TIED CARD OF 'actorgridlaw41.ConsoleCommands'. -/
def consoleCommandsCard : Claim7 := { stood := { row := consoleCommandsRow, standIns := [], harness := (true, "8d6794f8151bc6806c5859aa3f299fd59deee495b5c560bac2039909398a5b9c"), looks := true }, kinds := [], alts := [], laidByText := true, laidKinds := [.data, .data, .data], laidTests := true, laidLooks := .later }
def ConsoleCommandsCardSaid : Prop := Claim7.holds Tryd.pinned (.plain (OpenSpec.ofChange consoleCommandsSpec)) consoleCommandsCard

/-- THE TIED CARD OF 'actorgridlaw41.ConsoleQuotes'. -/
def consoleQuotesCard : Claim7 := { stood := { row := consoleQuotesRow, standIns := [], harness := (true, "8d6794f8151bc6806c5859aa3f299fd59deee495b5c560bac2039909398a5b9c"), looks := true }, kinds := [], alts := [], laidByText := true, laidKinds := [.data, .data, .data], laidTests := true, laidLooks := .later }
def ConsoleQuotesCardSaid : Prop := Claim7.holds Tryd.pinned (.plain (OpenSpec.ofChange consoleQuotesSpec)) consoleQuotesCard

/-- THE TIED CARD OF 'actorgridlaw41.ConsoleQuoteTrip'. -/
def consoleQuoteTripCard : Claim7 := { stood := { row := consoleQuoteTripRow, standIns := [], harness := (true, "8d6794f8151bc6806c5859aa3f299fd59deee495b5c560bac2039909398a5b9c"), looks := true }, kinds := [], alts := [], laidByText := true, laidKinds := [.data, .data, .data], laidTests := true, laidLooks := .later }
def ConsoleQuoteTripCardSaid : Prop := Claim7.holds Tryd.pinned (.plain (OpenSpec.ofChange consoleQuoteTripSpec)) consoleQuoteTripCard

/-- THE TIED CARD OF 'actorgridlaw41.ConsoleTrip'. -/
def consoleTripCard : Claim7 := { stood := { row := consoleTripRow, standIns := [], harness := (true, "8d6794f8151bc6806c5859aa3f299fd59deee495b5c560bac2039909398a5b9c"), looks := true }, kinds := [], alts := [], laidByText := true, laidKinds := [.data, .data, .data], laidTests := true, laidLooks := .later }
def ConsoleTripCardSaid : Prop := Claim7.holds Tryd.pinned (.plain (OpenSpec.ofChange consoleTripSpec)) consoleTripCard

/-- THE TIED CARD OF 'actorgridlaw41.ConsoleParses'. -/
def consoleParsesCard : Claim7 := { stood := { row := consoleParsesRow, standIns := [], harness := (true, "8d6794f8151bc6806c5859aa3f299fd59deee495b5c560bac2039909398a5b9c"), looks := true }, kinds := [], alts := [], laidByText := true, laidKinds := [.data, .data, .data], laidTests := true, laidLooks := .later }
def ConsoleParsesCardSaid : Prop := Claim7.holds Tryd.pinned (.plain (OpenSpec.ofChange consoleParsesSpec)) consoleParsesCard

/-- THE TIED CARD OF 'actorgridlaw41.ConsoleStrict'. -/
def consoleStrictCard : Claim7 := { stood := { row := consoleStrictRow, standIns := [], harness := (true, "8d6794f8151bc6806c5859aa3f299fd59deee495b5c560bac2039909398a5b9c"), looks := true }, kinds := [], alts := [], laidByText := true, laidKinds := [.data, .data, .data], laidTests := true, laidLooks := .later }
def ConsoleStrictCardSaid : Prop := Claim7.holds Tryd.pinned (.plain (OpenSpec.ofChange consoleStrictSpec)) consoleStrictCard

/-- THE TIED CARD OF 'actorgridlaw17.LexTells'. -/
def lexTellsCard : Claim7 := { stood := { row := lexTellsRow, standIns := [], harness := (true, "8d6794f8151bc6806c5859aa3f299fd59deee495b5c560bac2039909398a5b9c"), looks := true }, kinds := [], alts := [], laidByText := true, laidKinds := [.data, .data, .data, .sentinel, .sentinel], laidTests := true, laidLooks := .later }
def LexTellsCardSaid : Prop := Claim7.holds Tryd.pinned (.plain (OpenSpec.ofChange lexTellsSpec)) lexTellsCard

/-- THE TIED CARD OF 'actorgridlaw17.LexQuotes'. -/
def lexQuotesCard : Claim7 := { stood := { row := lexQuotesRow, standIns := [], harness := (true, "8d6794f8151bc6806c5859aa3f299fd59deee495b5c560bac2039909398a5b9c"), looks := true }, kinds := [], alts := [], laidByText := true, laidKinds := [.data, .data, .data, .sentinel, .sentinel], laidTests := true, laidLooks := .later }
def LexQuotesCardSaid : Prop := Claim7.holds Tryd.pinned (.plain (OpenSpec.ofChange lexQuotesSpec)) lexQuotesCard

/-- THE TIED CARD OF 'actorgridlaw17.LexParts'. -/
def lexPartsCard : Claim7 := { stood := { row := lexPartsRow, standIns := [], harness := (true, "8d6794f8151bc6806c5859aa3f299fd59deee495b5c560bac2039909398a5b9c"), looks := true }, kinds := [], alts := [], laidByText := true, laidKinds := [.data, .data, .data, .sentinel, .sentinel], laidTests := true, laidLooks := .later }
def LexPartsCardSaid : Prop := Claim7.holds Tryd.pinned (.plain (OpenSpec.ofChange lexPartsSpec)) lexPartsCard

/-- THE TIED CARD OF 'actorgridlaw17.LexBlanks'. -/
def lexBlanksCard : Claim7 := { stood := { row := lexBlanksRow, standIns := [], harness := (true, "8d6794f8151bc6806c5859aa3f299fd59deee495b5c560bac2039909398a5b9c"), looks := true }, kinds := [], alts := [], laidByText := true, laidKinds := [.data, .data, .data, .sentinel, .sentinel], laidTests := true, laidLooks := .later }
def LexBlanksCardSaid : Prop := Claim7.holds Tryd.pinned (.plain (OpenSpec.ofChange lexBlanksSpec)) lexBlanksCard

/-- THE TIED CARD OF 'actorgridlaw17.LexPlaces'. -/
def lexPlacesCard : Claim7 := { stood := { row := lexPlacesRow, standIns := [], harness := (true, "8d6794f8151bc6806c5859aa3f299fd59deee495b5c560bac2039909398a5b9c"), looks := true }, kinds := [], alts := [], laidByText := true, laidKinds := [.data, .data, .data, .sentinel, .sentinel], laidTests := true, laidLooks := .later }
def LexPlacesCardSaid : Prop := Claim7.holds Tryd.pinned (.plain (OpenSpec.ofChange lexPlacesSpec)) lexPlacesCard

/-- THE SECOND FORM's CARD OF 'actorgridlaw41.ConsoleCommands'. -/
def consoleCommandsUptoCard : Claim7 := { stood := { row := consoleCommandsUptoRow, standIns := [], harness := (true, "8d6794f8151bc6806c5859aa3f299fd59deee495b5c560bac2039909398a5b9c"), looks := true }, kinds := [], alts := [], laidByText := true, laidKinds := [.data, .data, .data], laidTests := true, laidLooks := .later }
def ConsoleCommandsUptoCardSaid : Prop := Claim7.holds Tryd.pinned (.plain (OpenSpec.upto consoleCommandsSpec)) consoleCommandsUptoCard

/-- THE SECOND FORM's CARD OF 'actorgridlaw41.ConsoleQuotes'. -/
def consoleQuotesUptoCard : Claim7 := { stood := { row := consoleQuotesUptoRow, standIns := [], harness := (true, "8d6794f8151bc6806c5859aa3f299fd59deee495b5c560bac2039909398a5b9c"), looks := true }, kinds := [], alts := [], laidByText := true, laidKinds := [.data, .data, .data], laidTests := true, laidLooks := .later }
def ConsoleQuotesUptoCardSaid : Prop := Claim7.holds Tryd.pinned (.plain (OpenSpec.upto consoleQuotesSpec)) consoleQuotesUptoCard

/-- THE SECOND FORM's CARD OF 'actorgridlaw41.ConsoleQuoteTrip'. -/
def consoleQuoteTripUptoCard : Claim7 := { stood := { row := consoleQuoteTripUptoRow, standIns := [], harness := (true, "8d6794f8151bc6806c5859aa3f299fd59deee495b5c560bac2039909398a5b9c"), looks := true }, kinds := [], alts := [], laidByText := true, laidKinds := [.data, .data, .data], laidTests := true, laidLooks := .later }
def ConsoleQuoteTripUptoCardSaid : Prop := Claim7.holds Tryd.pinned (.plain (OpenSpec.upto consoleQuoteTripSpec)) consoleQuoteTripUptoCard

/-- THE SECOND FORM's CARD OF 'actorgridlaw41.ConsoleTrip'. -/
def consoleTripUptoCard : Claim7 := { stood := { row := consoleTripUptoRow, standIns := [], harness := (true, "8d6794f8151bc6806c5859aa3f299fd59deee495b5c560bac2039909398a5b9c"), looks := true }, kinds := [], alts := [], laidByText := true, laidKinds := [.data, .data, .data], laidTests := true, laidLooks := .later }
def ConsoleTripUptoCardSaid : Prop := Claim7.holds Tryd.pinned (.plain (OpenSpec.upto consoleTripSpec)) consoleTripUptoCard

/-- THE SECOND FORM's CARD OF 'actorgridlaw41.ConsoleParses'. -/
def consoleParsesUptoCard : Claim7 := { stood := { row := consoleParsesUptoRow, standIns := [], harness := (true, "8d6794f8151bc6806c5859aa3f299fd59deee495b5c560bac2039909398a5b9c"), looks := true }, kinds := [], alts := [], laidByText := true, laidKinds := [.data, .data, .data], laidTests := true, laidLooks := .later }
def ConsoleParsesUptoCardSaid : Prop := Claim7.holds Tryd.pinned (.plain (OpenSpec.upto consoleParsesSpec)) consoleParsesUptoCard

/-- THE SECOND FORM's CARD OF 'actorgridlaw41.ConsoleStrict'. -/
def consoleStrictUptoCard : Claim7 := { stood := { row := consoleStrictUptoRow, standIns := [], harness := (true, "8d6794f8151bc6806c5859aa3f299fd59deee495b5c560bac2039909398a5b9c"), looks := true }, kinds := [], alts := [], laidByText := true, laidKinds := [.data, .data, .data], laidTests := true, laidLooks := .later }
def ConsoleStrictUptoCardSaid : Prop := Claim7.holds Tryd.pinned (.plain (OpenSpec.upto consoleStrictSpec)) consoleStrictUptoCard

/-- THE SECOND FORM's CARD OF 'actorgridlaw17.LexTells'. -/
def lexTellsUptoCard : Claim7 := { stood := { row := lexTellsUptoRow, standIns := [], harness := (true, "8d6794f8151bc6806c5859aa3f299fd59deee495b5c560bac2039909398a5b9c"), looks := true }, kinds := [], alts := [], laidByText := true, laidKinds := [.data, .data, .data, .sentinel, .sentinel], laidTests := true, laidLooks := .later }
def LexTellsUptoCardSaid : Prop := Claim7.holds Tryd.pinned (.plain (OpenSpec.upto lexTellsSpec)) lexTellsUptoCard

/-- THE SECOND FORM's CARD OF 'actorgridlaw17.LexQuotes'. -/
def lexQuotesUptoCard : Claim7 := { stood := { row := lexQuotesUptoRow, standIns := [], harness := (true, "8d6794f8151bc6806c5859aa3f299fd59deee495b5c560bac2039909398a5b9c"), looks := true }, kinds := [], alts := [], laidByText := true, laidKinds := [.data, .data, .data, .sentinel, .sentinel], laidTests := true, laidLooks := .later }
def LexQuotesUptoCardSaid : Prop := Claim7.holds Tryd.pinned (.plain (OpenSpec.upto lexQuotesSpec)) lexQuotesUptoCard

/-- THE SECOND FORM's CARD OF 'actorgridlaw17.LexParts'. -/
def lexPartsUptoCard : Claim7 := { stood := { row := lexPartsUptoRow, standIns := [], harness := (true, "8d6794f8151bc6806c5859aa3f299fd59deee495b5c560bac2039909398a5b9c"), looks := true }, kinds := [], alts := [], laidByText := true, laidKinds := [.data, .data, .data, .sentinel, .sentinel], laidTests := true, laidLooks := .later }
def LexPartsUptoCardSaid : Prop := Claim7.holds Tryd.pinned (.plain (OpenSpec.upto lexPartsSpec)) lexPartsUptoCard

/-- THE SECOND FORM's CARD OF 'actorgridlaw17.LexBlanks'. -/
def lexBlanksUptoCard : Claim7 := { stood := { row := lexBlanksUptoRow, standIns := [], harness := (true, "8d6794f8151bc6806c5859aa3f299fd59deee495b5c560bac2039909398a5b9c"), looks := true }, kinds := [], alts := [], laidByText := true, laidKinds := [.data, .data, .data, .sentinel, .sentinel], laidTests := true, laidLooks := .later }
def LexBlanksUptoCardSaid : Prop := Claim7.holds Tryd.pinned (.plain (OpenSpec.upto lexBlanksSpec)) lexBlanksUptoCard

/-- THE SECOND FORM's CARD OF 'actorgridlaw17.LexPlaces'. -/
def lexPlacesUptoCard : Claim7 := { stood := { row := lexPlacesUptoRow, standIns := [], harness := (true, "8d6794f8151bc6806c5859aa3f299fd59deee495b5c560bac2039909398a5b9c"), looks := true }, kinds := [], alts := [], laidByText := true, laidKinds := [.data, .data, .data, .sentinel, .sentinel], laidTests := true, laidLooks := .later }
def LexPlacesUptoCardSaid : Prop := Claim7.holds Tryd.pinned (.plain (OpenSpec.upto lexPlacesSpec)) lexPlacesUptoCard
end Rows
end Go.Proofs.YtjpiiejdaiaocaaDoor
