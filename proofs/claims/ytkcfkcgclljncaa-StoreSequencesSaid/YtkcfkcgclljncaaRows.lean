/-
  No cell of these rows narrows 'for every input' (looked for: loops, veiled, ifaces, maps, wideKeys, modest, calm, conditions, laid).
  DERIVED. THE GIVEN ROWS OF THIS SEAT. 12 by the template 'for every input the law returns true; each argument reads behind the call as it read before'; 0 by the template 'total and deterministic' (their statements: YtkcfkcgclljncaaTotals.lean).
  GIVEN WITH THE SEED: the statements are not yours to turn. If you find one false, say at which input.
  Laid BY PROGRAM, IN A SANDBOX (cutbox-rows.mjs): the forced cells as the released guide's own fill.sh prints them over the translation 58a49594a3ba9d88… (all of the seat's roots in one cut). By AI agents, Wed Nov 11 2026. No macro, syntax, notation, axiom, sorry.
-/
import Derived.Test.YtkcfkcgclljncaaChecked
import GoSem.Claim
import GoSem.ClaimJoined
import GoSem.ClaimMapViews
import Derived.JoinedTies
import Derived.KernelRfl
namespace Go.Proofs.Ytkcfkcgclljncaa
/- THE CELL 'sum', in the pinned program and in every row, IS THE sha256 OF THE DUMP (.gsa) THAT YtkcfkcgclljncaaProg.lean LOADS. Nothing in Lean hashes anything: it is a label: what it is worth is what the hold of that sum in a sandbox is worth. -/
noncomputable def Try.pinned : Pinned := { name := "ytkcfkcgclljncaa", sum := "58a49594a3ba9d88a41a503e605013ea21aaa872ba5ccadd01a668108129235c", checked := Try.checked }
namespace Rows
def none {H : Type} : Left H := { results := [], args := [] }

/-- 'actorgridlaw26.DiskTorn': WHATEVER THE INPUT: true; the input reads as it did. -/
def diskTornSpec : ChangeSpec := { name := "diskTorn", fn := fun _ => fun
  | [d1, d2, d3] => { results := [.lit (.bool true)], args := [d1, d2, d3] }
  | _ => none }
def diskTornRow : OpenClaim := { program := "ytkcfkcgclljncaa", sum := "58a49594a3ba9d88a41a503e605013ea21aaa872ba5ccadd01a668108129235c", func := "actorgrid/actorgridlaw26.DiskTorn", spec := "diskTorn", apart := false }
def DiskTornSaid : Prop := diskTornRow.holds Try.pinned (OpenSpec.ofChange diskTornSpec)

/-- ITS FALSE NEIGHBOUR: 'it returns false'. Refute it at one input. -/
def diskTornWrong : ChangeSpec := { name := "diskTorn", fn := fun _ => fun
  | [d1, d2, d3] => { results := [.lit (.bool false)], args := [d1, d2, d3] }
  | _ => none }
def DiskTornWrongFalsely : Prop := diskTornRow.holds Try.pinned (OpenSpec.ofChange diskTornWrong)

/-- 'actorgridlaw26.DiskOperations': WHATEVER THE INPUT: true; the input reads as it did. -/
def diskOperationsSpec : ChangeSpec := { name := "diskOperations", fn := fun _ => fun
  | [d1, d2, d3, d4, d5] => { results := [.lit (.bool true)], args := [d1, d2, d3, d4, d5] }
  | _ => none }
def diskOperationsRow : OpenClaim := { program := "ytkcfkcgclljncaa", sum := "58a49594a3ba9d88a41a503e605013ea21aaa872ba5ccadd01a668108129235c", func := "actorgrid/actorgridlaw26.DiskOperations", spec := "diskOperations", apart := false }
def DiskOperationsSaid : Prop := diskOperationsRow.holds Try.pinned (OpenSpec.ofChange diskOperationsSpec)

/-- ITS FALSE NEIGHBOUR: 'it returns false'. Refute it at one input. -/
def diskOperationsWrong : ChangeSpec := { name := "diskOperations", fn := fun _ => fun
  | [d1, d2, d3, d4, d5] => { results := [.lit (.bool false)], args := [d1, d2, d3, d4, d5] }
  | _ => none }
def DiskOperationsWrongFalsely : Prop := diskOperationsRow.holds Try.pinned (OpenSpec.ofChange diskOperationsWrong)

/-- 'actorgridlaw26.DiskSequences': WHATEVER THE INPUT: true; the input reads as it did. -/
def diskSequencesSpec : ChangeSpec := { name := "diskSequences", fn := fun _ => fun
  | [d1, d2] => { results := [.lit (.bool true)], args := [d1, d2] }
  | _ => none }
def diskSequencesRow : OpenClaim := { program := "ytkcfkcgclljncaa", sum := "58a49594a3ba9d88a41a503e605013ea21aaa872ba5ccadd01a668108129235c", func := "actorgrid/actorgridlaw26.DiskSequences", spec := "diskSequences", apart := false }
def DiskSequencesSaid : Prop := diskSequencesRow.holds Try.pinned (OpenSpec.ofChange diskSequencesSpec)

/-- ITS FALSE NEIGHBOUR: 'it returns false'. Refute it at one input. -/
def diskSequencesWrong : ChangeSpec := { name := "diskSequences", fn := fun _ => fun
  | [d1, d2] => { results := [.lit (.bool false)], args := [d1, d2] }
  | _ => none }
def DiskSequencesWrongFalsely : Prop := diskSequencesRow.holds Try.pinned (OpenSpec.ofChange diskSequencesWrong)

/-- 'actorgridlaw27.JournalAppends': WHATEVER THE INPUT: true; the input reads as it did. -/
def journalAppendsSpec : ChangeSpec := { name := "journalAppends", fn := fun _ => fun
  | [d1, d2] => { results := [.lit (.bool true)], args := [d1, d2] }
  | _ => none }
def journalAppendsRow : OpenClaim := { program := "ytkcfkcgclljncaa", sum := "58a49594a3ba9d88a41a503e605013ea21aaa872ba5ccadd01a668108129235c", func := "actorgrid/actorgridlaw27.JournalAppends", spec := "journalAppends", unfollowed := true, recurses := true, apart := false }
def JournalAppendsSaid : Prop := journalAppendsRow.holds Try.pinned (OpenSpec.ofChange journalAppendsSpec)

/-- ITS FALSE NEIGHBOUR: 'it returns false'. Refute it at one input. -/
def journalAppendsWrong : ChangeSpec := { name := "journalAppends", fn := fun _ => fun
  | [d1, d2] => { results := [.lit (.bool false)], args := [d1, d2] }
  | _ => none }
def JournalAppendsWrongFalsely : Prop := journalAppendsRow.holds Try.pinned (OpenSpec.ofChange journalAppendsWrong)

/-- 'actorgridlaw27.JournalScans': WHATEVER THE INPUT: true; the input reads as it did. -/
def journalScansSpec : ChangeSpec := { name := "journalScans", fn := fun _ => fun
  | [d1, d2, d3] => { results := [.lit (.bool true)], args := [d1, d2, d3] }
  | _ => none }
def journalScansRow : OpenClaim := { program := "ytkcfkcgclljncaa", sum := "58a49594a3ba9d88a41a503e605013ea21aaa872ba5ccadd01a668108129235c", func := "actorgrid/actorgridlaw27.JournalScans", spec := "journalScans", unfollowed := true, recurses := true, apart := false }
def JournalScansSaid : Prop := journalScansRow.holds Try.pinned (OpenSpec.ofChange journalScansSpec)

/-- ITS FALSE NEIGHBOUR: 'it returns false'. Refute it at one input. -/
def journalScansWrong : ChangeSpec := { name := "journalScans", fn := fun _ => fun
  | [d1, d2, d3] => { results := [.lit (.bool false)], args := [d1, d2, d3] }
  | _ => none }
def JournalScansWrongFalsely : Prop := journalScansRow.holds Try.pinned (OpenSpec.ofChange journalScansWrong)

/-- 'actorgridlaw27.JournalRecovers': WHATEVER THE INPUT: true; the input reads as it did. -/
def journalRecoversSpec : ChangeSpec := { name := "journalRecovers", fn := fun _ => fun
  | [d1, d2, d3] => { results := [.lit (.bool true)], args := [d1, d2, d3] }
  | _ => none }
def journalRecoversRow : OpenClaim := { program := "ytkcfkcgclljncaa", sum := "58a49594a3ba9d88a41a503e605013ea21aaa872ba5ccadd01a668108129235c", func := "actorgrid/actorgridlaw27.JournalRecovers", spec := "journalRecovers", unfollowed := true, recurses := true, apart := false }
def JournalRecoversSaid : Prop := journalRecoversRow.holds Try.pinned (OpenSpec.ofChange journalRecoversSpec)

/-- ITS FALSE NEIGHBOUR: 'it returns false'. Refute it at one input. -/
def journalRecoversWrong : ChangeSpec := { name := "journalRecovers", fn := fun _ => fun
  | [d1, d2, d3] => { results := [.lit (.bool false)], args := [d1, d2, d3] }
  | _ => none }
def JournalRecoversWrongFalsely : Prop := journalRecoversRow.holds Try.pinned (OpenSpec.ofChange journalRecoversWrong)

/-- 'actorgridlaw27.JournalSurvives': WHATEVER THE INPUT: true; the input reads as it did. -/
def journalSurvivesSpec : ChangeSpec := { name := "journalSurvives", fn := fun _ => fun
  | [d1, d2, d3] => { results := [.lit (.bool true)], args := [d1, d2, d3] }
  | _ => none }
def journalSurvivesRow : OpenClaim := { program := "ytkcfkcgclljncaa", sum := "58a49594a3ba9d88a41a503e605013ea21aaa872ba5ccadd01a668108129235c", func := "actorgrid/actorgridlaw27.JournalSurvives", spec := "journalSurvives", unfollowed := true, recurses := true, apart := false }
def JournalSurvivesSaid : Prop := journalSurvivesRow.holds Try.pinned (OpenSpec.ofChange journalSurvivesSpec)

/-- ITS FALSE NEIGHBOUR: 'it returns false'. Refute it at one input. -/
def journalSurvivesWrong : ChangeSpec := { name := "journalSurvives", fn := fun _ => fun
  | [d1, d2, d3] => { results := [.lit (.bool false)], args := [d1, d2, d3] }
  | _ => none }
def JournalSurvivesWrongFalsely : Prop := journalSurvivesRow.holds Try.pinned (OpenSpec.ofChange journalSurvivesWrong)

/-- 'actorgridlaw27.JournalContinues': WHATEVER THE INPUT: true; the input reads as it did. -/
def journalContinuesSpec : ChangeSpec := { name := "journalContinues", fn := fun _ => fun
  | [d1, d2, d3, d4] => { results := [.lit (.bool true)], args := [d1, d2, d3, d4] }
  | _ => none }
def journalContinuesRow : OpenClaim := { program := "ytkcfkcgclljncaa", sum := "58a49594a3ba9d88a41a503e605013ea21aaa872ba5ccadd01a668108129235c", func := "actorgrid/actorgridlaw27.JournalContinues", spec := "journalContinues", unfollowed := true, recurses := true, apart := false }
def JournalContinuesSaid : Prop := journalContinuesRow.holds Try.pinned (OpenSpec.ofChange journalContinuesSpec)

/-- ITS FALSE NEIGHBOUR: 'it returns false'. Refute it at one input. -/
def journalContinuesWrong : ChangeSpec := { name := "journalContinues", fn := fun _ => fun
  | [d1, d2, d3, d4] => { results := [.lit (.bool false)], args := [d1, d2, d3, d4] }
  | _ => none }
def JournalContinuesWrongFalsely : Prop := journalContinuesRow.holds Try.pinned (OpenSpec.ofChange journalContinuesWrong)

/-- 'actorgridlaw28.StoreAny': WHATEVER THE INPUT: true; the input reads as it did. -/
def storeAnySpec : ChangeSpec := { name := "storeAny", fn := fun _ => fun
  | [d1, d2, d3] => { results := [.lit (.bool true)], args := [d1, d2, d3] }
  | _ => none }
def storeAnyRow : OpenClaim := { program := "ytkcfkcgclljncaa", sum := "58a49594a3ba9d88a41a503e605013ea21aaa872ba5ccadd01a668108129235c", func := "actorgrid/actorgridlaw28.StoreAny", spec := "storeAny", unfollowed := true, recurses := true, apart := false }
def StoreAnySaid : Prop := storeAnyRow.holds Try.pinned (OpenSpec.ofChange storeAnySpec)

/-- ITS FALSE NEIGHBOUR: 'it returns false'. Refute it at one input. -/
def storeAnyWrong : ChangeSpec := { name := "storeAny", fn := fun _ => fun
  | [d1, d2, d3] => { results := [.lit (.bool false)], args := [d1, d2, d3] }
  | _ => none }
def StoreAnyWrongFalsely : Prop := storeAnyRow.holds Try.pinned (OpenSpec.ofChange storeAnyWrong)

/-- 'actorgridlaw28.StoreCompacts': WHATEVER THE INPUT: true; the input reads as it did. -/
def storeCompactsSpec : ChangeSpec := { name := "storeCompacts", fn := fun _ => fun
  | [d1, d2, d3] => { results := [.lit (.bool true)], args := [d1, d2, d3] }
  | _ => none }
def storeCompactsRow : OpenClaim := { program := "ytkcfkcgclljncaa", sum := "58a49594a3ba9d88a41a503e605013ea21aaa872ba5ccadd01a668108129235c", func := "actorgrid/actorgridlaw28.StoreCompacts", spec := "storeCompacts", unfollowed := true, recurses := true, apart := false }
def StoreCompactsSaid : Prop := storeCompactsRow.holds Try.pinned (OpenSpec.ofChange storeCompactsSpec)

/-- ITS FALSE NEIGHBOUR: 'it returns false'. Refute it at one input. -/
def storeCompactsWrong : ChangeSpec := { name := "storeCompacts", fn := fun _ => fun
  | [d1, d2, d3] => { results := [.lit (.bool false)], args := [d1, d2, d3] }
  | _ => none }
def StoreCompactsWrongFalsely : Prop := storeCompactsRow.holds Try.pinned (OpenSpec.ofChange storeCompactsWrong)

/-- 'actorgridlaw28.StoreSequences': WHATEVER THE INPUT: true; the input reads as it did. -/
def storeSequencesSpec : ChangeSpec := { name := "storeSequences", fn := fun _ => fun
  | [d1, d2] => { results := [.lit (.bool true)], args := [d1, d2] }
  | _ => none }
def storeSequencesRow : OpenClaim := { program := "ytkcfkcgclljncaa", sum := "58a49594a3ba9d88a41a503e605013ea21aaa872ba5ccadd01a668108129235c", func := "actorgrid/actorgridlaw28.StoreSequences", spec := "storeSequences", unfollowed := true, recurses := true, apart := false }
def StoreSequencesSaid : Prop := storeSequencesRow.holds Try.pinned (OpenSpec.ofChange storeSequencesSpec)

/-- ITS FALSE NEIGHBOUR: 'it returns false'. Refute it at one input. -/
def storeSequencesWrong : ChangeSpec := { name := "storeSequences", fn := fun _ => fun
  | [d1, d2] => { results := [.lit (.bool false)], args := [d1, d2] }
  | _ => none }
def StoreSequencesWrongFalsely : Prop := storeSequencesRow.holds Try.pinned (OpenSpec.ofChange storeSequencesWrong)

/-- 'actorgridlaw28.StoreSurvives': WHATEVER THE INPUT: true; the input reads as it did. -/
def storeSurvivesSpec : ChangeSpec := { name := "storeSurvives", fn := fun _ => fun
  | [d] => { results := [.lit (.bool true)], args := [d] }
  | _ => none }
def storeSurvivesRow : OpenClaim := { program := "ytkcfkcgclljncaa", sum := "58a49594a3ba9d88a41a503e605013ea21aaa872ba5ccadd01a668108129235c", func := "actorgrid/actorgridlaw28.StoreSurvives", spec := "storeSurvives", unfollowed := true, recurses := true, apart := false }
def StoreSurvivesSaid : Prop := storeSurvivesRow.holds Try.pinned (OpenSpec.ofChange storeSurvivesSpec)

/-- ITS FALSE NEIGHBOUR: 'it returns false'. Refute it at one input. -/
def storeSurvivesWrong : ChangeSpec := { name := "storeSurvives", fn := fun _ => fun
  | [d] => { results := [.lit (.bool false)], args := [d] }
  | _ => none }
def StoreSurvivesWrongFalsely : Prop := storeSurvivesRow.holds Try.pinned (OpenSpec.ofChange storeSurvivesWrong)

/- THE SECOND FORM. 'bulk': how many values and letters a reading holds, each counted each time it is reached (what is shared counts as often as it is met; a slice's spare places count too). A statement '..UptoSaid' is the law's where the arguments, and the package variables that the reading takes, are together of bulk at most 1048576: NARROWER than '..Said'. Prove '..Said' where nothing that the law and all that it calls make is longer than what came in: it says more and counts as full. Else prove '..UptoSaid'. A law counts once. -/
mutual
def uptoBulk {H : Type} : DataW H → Nat
  | .lit (.string bytes) => bytes.length + 1
  | .lit _ => 1
  | .nil => 1
  | .ptr d => uptoBulk d + 1
  | .slice elems spare => uptoBulkAll elems + uptoBulkAll spare + 1
  | .agg parts => uptoBulkAll parts + 1
  | .iface _ d => uptoBulk d + 1
  | .map entries => uptoBulkEntries entries + 1
  | .held _ => 1
def uptoBulkAll {H : Type} : List (DataW H) → Nat
  | [] => 0
  | d :: r => uptoBulk d + uptoBulkAll r
def uptoBulkEntries {H : Type} : List (Lit × DataW H) → Nat
  | [] => 0
  | x :: r => uptoBulkEntry x + uptoBulkEntries r
def uptoBulkEntry {H : Type} : Lit × DataW H → Nat
  | (.string bytes, d) => bytes.length + uptoBulk d + 1
  | (_, d) => uptoBulk d + 1
 end
def uptoSmall : (H : Type) → List (DataW H) → Bool := fun _ ds => decide (uptoBulkAll ds ≤ 1048576)
def OpenSpec.upto (s : _root_.Go.ChangeSpec) : _root_.Go.OpenSpec := { _root_.Go.OpenSpec.ofChange s with cond := some uptoSmall }

/-- 'actorgridlaw26.DiskTorn', WHERE WHAT IT READS IS OF BULK AT MOST 1048576: true; the input reads as it did. -/
def diskTornUptoRow : OpenClaim := { program := "ytkcfkcgclljncaa", sum := "58a49594a3ba9d88a41a503e605013ea21aaa872ba5ccadd01a668108129235c", func := "actorgrid/actorgridlaw26.DiskTorn", spec := "diskTorn", apart := false, narrowed := true }
def DiskTornUptoSaid : Prop := diskTornUptoRow.holds Try.pinned (OpenSpec.upto diskTornSpec)

/-- 'actorgridlaw26.DiskOperations', WHERE WHAT IT READS IS OF BULK AT MOST 1048576: true; the input reads as it did. -/
def diskOperationsUptoRow : OpenClaim := { program := "ytkcfkcgclljncaa", sum := "58a49594a3ba9d88a41a503e605013ea21aaa872ba5ccadd01a668108129235c", func := "actorgrid/actorgridlaw26.DiskOperations", spec := "diskOperations", apart := false, narrowed := true }
def DiskOperationsUptoSaid : Prop := diskOperationsUptoRow.holds Try.pinned (OpenSpec.upto diskOperationsSpec)

/-- 'actorgridlaw26.DiskSequences', WHERE WHAT IT READS IS OF BULK AT MOST 1048576: true; the input reads as it did. -/
def diskSequencesUptoRow : OpenClaim := { program := "ytkcfkcgclljncaa", sum := "58a49594a3ba9d88a41a503e605013ea21aaa872ba5ccadd01a668108129235c", func := "actorgrid/actorgridlaw26.DiskSequences", spec := "diskSequences", apart := false, narrowed := true }
def DiskSequencesUptoSaid : Prop := diskSequencesUptoRow.holds Try.pinned (OpenSpec.upto diskSequencesSpec)

/-- 'actorgridlaw27.JournalAppends', WHERE WHAT IT READS IS OF BULK AT MOST 1048576: true; the input reads as it did. -/
def journalAppendsUptoRow : OpenClaim := { program := "ytkcfkcgclljncaa", sum := "58a49594a3ba9d88a41a503e605013ea21aaa872ba5ccadd01a668108129235c", func := "actorgrid/actorgridlaw27.JournalAppends", spec := "journalAppends", unfollowed := true, recurses := true, apart := false, narrowed := true }
def JournalAppendsUptoSaid : Prop := journalAppendsUptoRow.holds Try.pinned (OpenSpec.upto journalAppendsSpec)

/-- 'actorgridlaw27.JournalScans', WHERE WHAT IT READS IS OF BULK AT MOST 1048576: true; the input reads as it did. -/
def journalScansUptoRow : OpenClaim := { program := "ytkcfkcgclljncaa", sum := "58a49594a3ba9d88a41a503e605013ea21aaa872ba5ccadd01a668108129235c", func := "actorgrid/actorgridlaw27.JournalScans", spec := "journalScans", unfollowed := true, recurses := true, apart := false, narrowed := true }
def JournalScansUptoSaid : Prop := journalScansUptoRow.holds Try.pinned (OpenSpec.upto journalScansSpec)

/-- 'actorgridlaw27.JournalRecovers', WHERE WHAT IT READS IS OF BULK AT MOST 1048576: true; the input reads as it did. -/
def journalRecoversUptoRow : OpenClaim := { program := "ytkcfkcgclljncaa", sum := "58a49594a3ba9d88a41a503e605013ea21aaa872ba5ccadd01a668108129235c", func := "actorgrid/actorgridlaw27.JournalRecovers", spec := "journalRecovers", unfollowed := true, recurses := true, apart := false, narrowed := true }
def JournalRecoversUptoSaid : Prop := journalRecoversUptoRow.holds Try.pinned (OpenSpec.upto journalRecoversSpec)

/-- 'actorgridlaw27.JournalSurvives', WHERE WHAT IT READS IS OF BULK AT MOST 1048576: true; the input reads as it did. -/
def journalSurvivesUptoRow : OpenClaim := { program := "ytkcfkcgclljncaa", sum := "58a49594a3ba9d88a41a503e605013ea21aaa872ba5ccadd01a668108129235c", func := "actorgrid/actorgridlaw27.JournalSurvives", spec := "journalSurvives", unfollowed := true, recurses := true, apart := false, narrowed := true }
def JournalSurvivesUptoSaid : Prop := journalSurvivesUptoRow.holds Try.pinned (OpenSpec.upto journalSurvivesSpec)

/-- 'actorgridlaw27.JournalContinues', WHERE WHAT IT READS IS OF BULK AT MOST 1048576: true; the input reads as it did. -/
def journalContinuesUptoRow : OpenClaim := { program := "ytkcfkcgclljncaa", sum := "58a49594a3ba9d88a41a503e605013ea21aaa872ba5ccadd01a668108129235c", func := "actorgrid/actorgridlaw27.JournalContinues", spec := "journalContinues", unfollowed := true, recurses := true, apart := false, narrowed := true }
def JournalContinuesUptoSaid : Prop := journalContinuesUptoRow.holds Try.pinned (OpenSpec.upto journalContinuesSpec)

/-- 'actorgridlaw28.StoreAny', WHERE WHAT IT READS IS OF BULK AT MOST 1048576: true; the input reads as it did. -/
def storeAnyUptoRow : OpenClaim := { program := "ytkcfkcgclljncaa", sum := "58a49594a3ba9d88a41a503e605013ea21aaa872ba5ccadd01a668108129235c", func := "actorgrid/actorgridlaw28.StoreAny", spec := "storeAny", unfollowed := true, recurses := true, apart := false, narrowed := true }
def StoreAnyUptoSaid : Prop := storeAnyUptoRow.holds Try.pinned (OpenSpec.upto storeAnySpec)

/-- 'actorgridlaw28.StoreCompacts', WHERE WHAT IT READS IS OF BULK AT MOST 1048576: true; the input reads as it did. -/
def storeCompactsUptoRow : OpenClaim := { program := "ytkcfkcgclljncaa", sum := "58a49594a3ba9d88a41a503e605013ea21aaa872ba5ccadd01a668108129235c", func := "actorgrid/actorgridlaw28.StoreCompacts", spec := "storeCompacts", unfollowed := true, recurses := true, apart := false, narrowed := true }
def StoreCompactsUptoSaid : Prop := storeCompactsUptoRow.holds Try.pinned (OpenSpec.upto storeCompactsSpec)

/-- 'actorgridlaw28.StoreSequences', WHERE WHAT IT READS IS OF BULK AT MOST 1048576: true; the input reads as it did. -/
def storeSequencesUptoRow : OpenClaim := { program := "ytkcfkcgclljncaa", sum := "58a49594a3ba9d88a41a503e605013ea21aaa872ba5ccadd01a668108129235c", func := "actorgrid/actorgridlaw28.StoreSequences", spec := "storeSequences", unfollowed := true, recurses := true, apart := false, narrowed := true }
def StoreSequencesUptoSaid : Prop := storeSequencesUptoRow.holds Try.pinned (OpenSpec.upto storeSequencesSpec)

/-- 'actorgridlaw28.StoreSurvives', WHERE WHAT IT READS IS OF BULK AT MOST 1048576: true; the input reads as it did. -/
def storeSurvivesUptoRow : OpenClaim := { program := "ytkcfkcgclljncaa", sum := "58a49594a3ba9d88a41a503e605013ea21aaa872ba5ccadd01a668108129235c", func := "actorgrid/actorgridlaw28.StoreSurvives", spec := "storeSurvives", unfollowed := true, recurses := true, apart := false, narrowed := true }
def StoreSurvivesUptoSaid : Prop := storeSurvivesUptoRow.holds Try.pinned (OpenSpec.upto storeSurvivesSpec)

end Rows
end Go.Proofs.Ytkcfkcgclljncaa
