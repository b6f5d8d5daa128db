/-
  No cell of these rows narrows 'for every input' (looked for: loops, veiled, ifaces, maps, wideKeys, modest, calm, conditions, laid).
  DERIVED. THE GIVEN ROWS OF THIS SEAT. 10 by the template 'for every input the law returns true; each argument reads behind the call as it read before'; 0 by the template 'total and deterministic' (their statements: YtbnjdkpangmneaaTotals.lean).
  GIVEN WITH THE SEED: the statements are not yours to turn. If you find one false, say at which input.
  Laid BY PROGRAM, IN A SANDBOX (cutbox-rows.mjs): the forced cells as the released guide's own fill.sh prints them over the translation 6a61ce99017d9f3e… (all of the seat's roots in one cut). By AI agents, Wed Nov 11 2026. No macro, syntax, notation, axiom, sorry.
-/
import Derived.Test.YtbnjdkpangmneaaChecked
import GoSem.Claim
import GoSem.ClaimJoined
import GoSem.ClaimMapViews
import Derived.JoinedTies
import Derived.KernelRfl
namespace Go.Proofs.Ytbnjdkpangmneaa
/- THE CELL 'sum', in the pinned program and in every row, IS THE sha256 OF THE DUMP (.gsa) THAT YtbnjdkpangmneaaProg.lean LOADS. Nothing in Lean hashes anything: it is a label: what it is worth is what the hold of that sum in a sandbox is worth. -/
noncomputable def Try.pinned : Pinned := { name := "ytbnjdkpangmneaa", sum := "6a61ce99017d9f3e6055fc026f4b05ff0d6aa202bb5f5634b9474c296e0143d1", checked := Try.checked }
namespace Rows
def none {H : Type} : Left H := { results := [], args := [] }

/-- 'actorgridlaw1.WireTexts': WHATEVER THE INPUT: true; the input reads as it did. -/
def wireTextsSpec : ChangeSpec := { name := "wireTexts", fn := fun _ => fun
  | [d1, d2, d3, d4, d5] => { results := [.lit (.bool true)], args := [d1, d2, d3, d4, d5] }
  | _ => none }
def wireTextsRow : OpenClaim := { program := "ytbnjdkpangmneaa", sum := "6a61ce99017d9f3e6055fc026f4b05ff0d6aa202bb5f5634b9474c296e0143d1", func := "actorgrid/actorgridlaw1.WireTexts", spec := "wireTexts", unfollowed := true, recurses := true, apart := false }
def WireTextsSaid : Prop := wireTextsRow.holds Try.pinned (OpenSpec.ofChange wireTextsSpec)

/-- ITS FALSE NEIGHBOUR: 'it returns false'. Refute it at one input. -/
def wireTextsWrong : ChangeSpec := { name := "wireTexts", fn := fun _ => fun
  | [d1, d2, d3, d4, d5] => { results := [.lit (.bool false)], args := [d1, d2, d3, d4, d5] }
  | _ => none }
def WireTextsWrongFalsely : Prop := wireTextsRow.holds Try.pinned (OpenSpec.ofChange wireTextsWrong)

/-- 'actorgridlaw1.WireFrames': WHATEVER THE INPUT: true; the input reads as it did. -/
def wireFramesSpec : ChangeSpec := { name := "wireFrames", fn := fun _ => fun
  | [d1, d2, d3] => { results := [.lit (.bool true)], args := [d1, d2, d3] }
  | _ => none }
def wireFramesRow : OpenClaim := { program := "ytbnjdkpangmneaa", sum := "6a61ce99017d9f3e6055fc026f4b05ff0d6aa202bb5f5634b9474c296e0143d1", func := "actorgrid/actorgridlaw1.WireFrames", spec := "wireFrames", unfollowed := true, recurses := true, apart := false }
def WireFramesSaid : Prop := wireFramesRow.holds Try.pinned (OpenSpec.ofChange wireFramesSpec)

/-- ITS FALSE NEIGHBOUR: 'it returns false'. Refute it at one input. -/
def wireFramesWrong : ChangeSpec := { name := "wireFrames", fn := fun _ => fun
  | [d1, d2, d3] => { results := [.lit (.bool false)], args := [d1, d2, d3] }
  | _ => none }
def WireFramesWrongFalsely : Prop := wireFramesRow.holds Try.pinned (OpenSpec.ofChange wireFramesWrong)

/-- 'actorgridlaw1.WireTruncated': WHATEVER THE INPUT: true; the input reads as it did. -/
def wireTruncatedSpec : ChangeSpec := { name := "wireTruncated", fn := fun _ => fun
  | [d1, d2, d3] => { results := [.lit (.bool true)], args := [d1, d2, d3] }
  | _ => none }
def wireTruncatedRow : OpenClaim := { program := "ytbnjdkpangmneaa", sum := "6a61ce99017d9f3e6055fc026f4b05ff0d6aa202bb5f5634b9474c296e0143d1", func := "actorgrid/actorgridlaw1.WireTruncated", spec := "wireTruncated", unfollowed := true, recurses := true, apart := false }
def WireTruncatedSaid : Prop := wireTruncatedRow.holds Try.pinned (OpenSpec.ofChange wireTruncatedSpec)

/-- ITS FALSE NEIGHBOUR: 'it returns false'. Refute it at one input. -/
def wireTruncatedWrong : ChangeSpec := { name := "wireTruncated", fn := fun _ => fun
  | [d1, d2, d3] => { results := [.lit (.bool false)], args := [d1, d2, d3] }
  | _ => none }
def WireTruncatedWrongFalsely : Prop := wireTruncatedRow.holds Try.pinned (OpenSpec.ofChange wireTruncatedWrong)

/-- 'actorgridlaw1.WireBursts': WHATEVER THE INPUT: true; the input reads as it did. -/
def wireBurstsSpec : ChangeSpec := { name := "wireBursts", fn := fun _ => fun
  | [d1, d2, d3, d4] => { results := [.lit (.bool true)], args := [d1, d2, d3, d4] }
  | _ => none }
def wireBurstsRow : OpenClaim := { program := "ytbnjdkpangmneaa", sum := "6a61ce99017d9f3e6055fc026f4b05ff0d6aa202bb5f5634b9474c296e0143d1", func := "actorgrid/actorgridlaw1.WireBursts", spec := "wireBursts", unfollowed := true, recurses := true, apart := false }
def WireBurstsSaid : Prop := wireBurstsRow.holds Try.pinned (OpenSpec.ofChange wireBurstsSpec)

/-- ITS FALSE NEIGHBOUR: 'it returns false'. Refute it at one input. -/
def wireBurstsWrong : ChangeSpec := { name := "wireBursts", fn := fun _ => fun
  | [d1, d2, d3, d4] => { results := [.lit (.bool false)], args := [d1, d2, d3, d4] }
  | _ => none }
def WireBurstsWrongFalsely : Prop := wireBurstsRow.holds Try.pinned (OpenSpec.ofChange wireBurstsWrong)

/-- 'actorgridlaw1.WireSums': WHATEVER THE INPUT: true; the input reads as it did. -/
def wireSumsSpec : ChangeSpec := { name := "wireSums", fn := fun _ => fun
  | [d1, d2] => { results := [.lit (.bool true)], args := [d1, d2] }
  | _ => none }
def wireSumsRow : OpenClaim := { program := "ytbnjdkpangmneaa", sum := "6a61ce99017d9f3e6055fc026f4b05ff0d6aa202bb5f5634b9474c296e0143d1", func := "actorgrid/actorgridlaw1.WireSums", spec := "wireSums", unfollowed := true, recurses := true, apart := false }
def WireSumsSaid : Prop := wireSumsRow.holds Try.pinned (OpenSpec.ofChange wireSumsSpec)

/-- ITS FALSE NEIGHBOUR: 'it returns false'. Refute it at one input. -/
def wireSumsWrong : ChangeSpec := { name := "wireSums", fn := fun _ => fun
  | [d1, d2] => { results := [.lit (.bool false)], args := [d1, d2] }
  | _ => none }
def WireSumsWrongFalsely : Prop := wireSumsRow.holds Try.pinned (OpenSpec.ofChange wireSumsWrong)

/-- 'actorgridlaw1.WireNumbers': WHATEVER THE INPUT: true; the input reads as it did. -/
def wireNumbersSpec : ChangeSpec := { name := "wireNumbers", fn := fun _ => fun
  | [d1, d2, d3] => { results := [.lit (.bool true)], args := [d1, d2, d3] }
  | _ => none }
def wireNumbersRow : OpenClaim := { program := "ytbnjdkpangmneaa", sum := "6a61ce99017d9f3e6055fc026f4b05ff0d6aa202bb5f5634b9474c296e0143d1", func := "actorgrid/actorgridlaw1.WireNumbers", spec := "wireNumbers", unfollowed := true, recurses := true, apart := false }
def WireNumbersSaid : Prop := wireNumbersRow.holds Try.pinned (OpenSpec.ofChange wireNumbersSpec)

/-- ITS FALSE NEIGHBOUR: 'it returns false'. Refute it at one input. -/
def wireNumbersWrong : ChangeSpec := { name := "wireNumbers", fn := fun _ => fun
  | [d1, d2, d3] => { results := [.lit (.bool false)], args := [d1, d2, d3] }
  | _ => none }
def WireNumbersWrongFalsely : Prop := wireNumbersRow.holds Try.pinned (OpenSpec.ofChange wireNumbersWrong)

/-- 'actorgridlaw1.WireCanonical': WHATEVER THE INPUT: true; the input reads as it did. -/
def wireCanonicalSpec : ChangeSpec := { name := "wireCanonical", fn := fun _ => fun
  | [d1, d2] => { results := [.lit (.bool true)], args := [d1, d2] }
  | _ => none }
def wireCanonicalRow : OpenClaim := { program := "ytbnjdkpangmneaa", sum := "6a61ce99017d9f3e6055fc026f4b05ff0d6aa202bb5f5634b9474c296e0143d1", func := "actorgrid/actorgridlaw1.WireCanonical", spec := "wireCanonical", unfollowed := true, recurses := true, apart := false }
def WireCanonicalSaid : Prop := wireCanonicalRow.holds Try.pinned (OpenSpec.ofChange wireCanonicalSpec)

/-- ITS FALSE NEIGHBOUR: 'it returns false'. Refute it at one input. -/
def wireCanonicalWrong : ChangeSpec := { name := "wireCanonical", fn := fun _ => fun
  | [d1, d2] => { results := [.lit (.bool false)], args := [d1, d2] }
  | _ => none }
def WireCanonicalWrongFalsely : Prop := wireCanonicalRow.holds Try.pinned (OpenSpec.ofChange wireCanonicalWrong)

/-- 'actorgridlaw1.WireAppends': WHATEVER THE INPUT: true; the input reads as it did. -/
def wireAppendsSpec : ChangeSpec := { name := "wireAppends", fn := fun _ => fun
  | [d1, d2, d3, d4, d5] => { results := [.lit (.bool true)], args := [d1, d2, d3, d4, d5] }
  | _ => none }
def wireAppendsRow : OpenClaim := { program := "ytbnjdkpangmneaa", sum := "6a61ce99017d9f3e6055fc026f4b05ff0d6aa202bb5f5634b9474c296e0143d1", func := "actorgrid/actorgridlaw1.WireAppends", spec := "wireAppends", unfollowed := true, recurses := true, apart := false }
def WireAppendsSaid : Prop := wireAppendsRow.holds Try.pinned (OpenSpec.ofChange wireAppendsSpec)

/-- ITS FALSE NEIGHBOUR: 'it returns false'. Refute it at one input. -/
def wireAppendsWrong : ChangeSpec := { name := "wireAppends", fn := fun _ => fun
  | [d1, d2, d3, d4, d5] => { results := [.lit (.bool false)], args := [d1, d2, d3, d4, d5] }
  | _ => none }
def WireAppendsWrongFalsely : Prop := wireAppendsRow.holds Try.pinned (OpenSpec.ofChange wireAppendsWrong)

/-- 'actorgridlaw1.WireValues': WHATEVER THE INPUT: true; the input reads as it did. -/
def wireValuesSpec : ChangeSpec := { name := "wireValues", fn := fun _ => fun
  | [d1, d2, d3] => { results := [.lit (.bool true)], args := [d1, d2, d3] }
  | _ => none }
def wireValuesRow : OpenClaim := { program := "ytbnjdkpangmneaa", sum := "6a61ce99017d9f3e6055fc026f4b05ff0d6aa202bb5f5634b9474c296e0143d1", func := "actorgrid/actorgridlaw1.WireValues", spec := "wireValues", unfollowed := true, recurses := true, apart := false }
def WireValuesSaid : Prop := wireValuesRow.holds Try.pinned (OpenSpec.ofChange wireValuesSpec)

/-- ITS FALSE NEIGHBOUR: 'it returns false'. Refute it at one input. -/
def wireValuesWrong : ChangeSpec := { name := "wireValues", fn := fun _ => fun
  | [d1, d2, d3] => { results := [.lit (.bool false)], args := [d1, d2, d3] }
  | _ => none }
def WireValuesWrongFalsely : Prop := wireValuesRow.holds Try.pinned (OpenSpec.ofChange wireValuesWrong)

/-- 'actorgridlaw1.WireRoundTrip': WHATEVER THE INPUT: true; the input reads as it did. -/
def wireRoundTripSpec : ChangeSpec := { name := "wireRoundTrip", fn := fun _ => fun
  | [d1, d2, d3, d4, d5] => { results := [.lit (.bool true)], args := [d1, d2, d3, d4, d5] }
  | _ => none }
def wireRoundTripRow : OpenClaim := { program := "ytbnjdkpangmneaa", sum := "6a61ce99017d9f3e6055fc026f4b05ff0d6aa202bb5f5634b9474c296e0143d1", func := "actorgrid/actorgridlaw1.WireRoundTrip", spec := "wireRoundTrip", unfollowed := true, recurses := true, apart := false }
def WireRoundTripSaid : Prop := wireRoundTripRow.holds Try.pinned (OpenSpec.ofChange wireRoundTripSpec)

/-- ITS FALSE NEIGHBOUR: 'it returns false'. Refute it at one input. -/
def wireRoundTripWrong : ChangeSpec := { name := "wireRoundTrip", fn := fun _ => fun
  | [d1, d2, d3, d4, d5] => { results := [.lit (.bool false)], args := [d1, d2, d3, d4, d5] }
  | _ => none }
def WireRoundTripWrongFalsely : Prop := wireRoundTripRow.holds Try.pinned (OpenSpec.ofChange wireRoundTripWrong)

/- THE SECOND FORM. 'bulk': how many values and letters a reading holds, each counted each time it is reached (what is shared counts as often as it is met; a slice's spare places count too). A statement '..UptoSaid' is the law's where the arguments, and the package variables that the reading takes, are together of bulk at most 1048576: NARROWER than '..Said'. Prove '..Said' where nothing that the law and all that it calls make is longer than what came in: it says more and counts as full. Else prove '..UptoSaid'. A law counts once. -/
mutual
def uptoBulk {H : Type} : DataW H → Nat
  | .lit (.string bytes) => bytes.length + 1
  | .lit _ => 1
  | .nil => 1
  | .ptr d => uptoBulk d + 1
  | .slice elems spare => uptoBulkAll elems + uptoBulkAll spare + 1
  | .agg parts => uptoBulkAll parts + 1
  | .iface _ d => uptoBulk d + 1
  | .map entries => uptoBulkEntries entries + 1
  | .held _ => 1
def uptoBulkAll {H : Type} : List (DataW H) → Nat
  | [] => 0
  | d :: r => uptoBulk d + uptoBulkAll r
def uptoBulkEntries {H : Type} : List (Lit × DataW H) → Nat
  | [] => 0
  | x :: r => uptoBulkEntry x + uptoBulkEntries r
def uptoBulkEntry {H : Type} : Lit × DataW H → Nat
  | (.string bytes, d) => bytes.length + uptoBulk d + 1
  | (_, d) => uptoBulk d + 1
 end
def uptoSmall : (H : Type) → List (DataW H) → Bool := fun _ ds => decide (uptoBulkAll ds ≤ 1048576)
def OpenSpec.upto (s : _root_.Go.ChangeSpec) : _root_.Go.OpenSpec := { _root_.Go.OpenSpec.ofChange s with cond := some uptoSmall }

/-- 'actorgridlaw1.WireTexts', WHERE WHAT IT READS IS OF BULK AT MOST 1048576: true; the input reads as it did. -/
def wireTextsUptoRow : OpenClaim := { program := "ytbnjdkpangmneaa", sum := "6a61ce99017d9f3e6055fc026f4b05ff0d6aa202bb5f5634b9474c296e0143d1", func := "actorgrid/actorgridlaw1.WireTexts", spec := "wireTexts", unfollowed := true, recurses := true, apart := false, narrowed := true }
def WireTextsUptoSaid : Prop := wireTextsUptoRow.holds Try.pinned (OpenSpec.upto wireTextsSpec)

/-- 'actorgridlaw1.WireFrames', WHERE WHAT IT READS IS OF BULK AT MOST 1048576: true; the input reads as it did. -/
def wireFramesUptoRow : OpenClaim := { program := "ytbnjdkpangmneaa", sum := "6a61ce99017d9f3e6055fc026f4b05ff0d6aa202bb5f5634b9474c296e0143d1", func := "actorgrid/actorgridlaw1.WireFrames", spec := "wireFrames", unfollowed := true, recurses := true, apart := false, narrowed := true }
def WireFramesUptoSaid : Prop := wireFramesUptoRow.holds Try.pinned (OpenSpec.upto wireFramesSpec)

/-- 'actorgridlaw1.WireTruncated', WHERE WHAT IT READS IS OF BULK AT MOST 1048576: true; the input reads as it did. -/
def wireTruncatedUptoRow : OpenClaim := { program := "ytbnjdkpangmneaa", sum := "6a61ce99017d9f3e6055fc026f4b05ff0d6aa202bb5f5634b9474c296e0143d1", func := "actorgrid/actorgridlaw1.WireTruncated", spec := "wireTruncated", unfollowed := true, recurses := true, apart := false, narrowed := true }
def WireTruncatedUptoSaid : Prop := wireTruncatedUptoRow.holds Try.pinned (OpenSpec.upto wireTruncatedSpec)

/-- 'actorgridlaw1.WireBursts', WHERE WHAT IT READS IS OF BULK AT MOST 1048576: true; the input reads as it did. -/
def wireBurstsUptoRow : OpenClaim := { program := "ytbnjdkpangmneaa", sum := "6a61ce99017d9f3e6055fc026f4b05ff0d6aa202bb5f5634b9474c296e0143d1", func := "actorgrid/actorgridlaw1.WireBursts", spec := "wireBursts", unfollowed := true, recurses := true, apart := false, narrowed := true }
def WireBurstsUptoSaid : Prop := wireBurstsUptoRow.holds Try.pinned (OpenSpec.upto wireBurstsSpec)

/-- 'actorgridlaw1.WireSums', WHERE WHAT IT READS IS OF BULK AT MOST 1048576: true; the input reads as it did. -/
def wireSumsUptoRow : OpenClaim := { program := "ytbnjdkpangmneaa", sum := "6a61ce99017d9f3e6055fc026f4b05ff0d6aa202bb5f5634b9474c296e0143d1", func := "actorgrid/actorgridlaw1.WireSums", spec := "wireSums", unfollowed := true, recurses := true, apart := false, narrowed := true }
def WireSumsUptoSaid : Prop := wireSumsUptoRow.holds Try.pinned (OpenSpec.upto wireSumsSpec)

/-- 'actorgridlaw1.WireNumbers', WHERE WHAT IT READS IS OF BULK AT MOST 1048576: true; the input reads as it did. -/
def wireNumbersUptoRow : OpenClaim := { program := "ytbnjdkpangmneaa", sum := "6a61ce99017d9f3e6055fc026f4b05ff0d6aa202bb5f5634b9474c296e0143d1", func := "actorgrid/actorgridlaw1.WireNumbers", spec := "wireNumbers", unfollowed := true, recurses := true, apart := false, narrowed := true }
def WireNumbersUptoSaid : Prop := wireNumbersUptoRow.holds Try.pinned (OpenSpec.upto wireNumbersSpec)

/-- 'actorgridlaw1.WireCanonical', WHERE WHAT IT READS IS OF BULK AT MOST 1048576: true; the input reads as it did. -/
def wireCanonicalUptoRow : OpenClaim := { program := "ytbnjdkpangmneaa", sum := "6a61ce99017d9f3e6055fc026f4b05ff0d6aa202bb5f5634b9474c296e0143d1", func := "actorgrid/actorgridlaw1.WireCanonical", spec := "wireCanonical", unfollowed := true, recurses := true, apart := false, narrowed := true }
def WireCanonicalUptoSaid : Prop := wireCanonicalUptoRow.holds Try.pinned (OpenSpec.upto wireCanonicalSpec)

/-- 'actorgridlaw1.WireAppends', WHERE WHAT IT READS IS OF BULK AT MOST 1048576: true; the input reads as it did. -/
def wireAppendsUptoRow : OpenClaim := { program := "ytbnjdkpangmneaa", sum := "6a61ce99017d9f3e6055fc026f4b05ff0d6aa202bb5f5634b9474c296e0143d1", func := "actorgrid/actorgridlaw1.WireAppends", spec := "wireAppends", unfollowed := true, recurses := true, apart := false, narrowed := true }
def WireAppendsUptoSaid : Prop := wireAppendsUptoRow.holds Try.pinned (OpenSpec.upto wireAppendsSpec)

/-- 'actorgridlaw1.WireValues', WHERE WHAT IT READS IS OF BULK AT MOST 1048576: true; the input reads as it did. -/
def wireValuesUptoRow : OpenClaim := { program := "ytbnjdkpangmneaa", sum := "6a61ce99017d9f3e6055fc026f4b05ff0d6aa202bb5f5634b9474c296e0143d1", func := "actorgrid/actorgridlaw1.WireValues", spec := "wireValues", unfollowed := true, recurses := true, apart := false, narrowed := true }
def WireValuesUptoSaid : Prop := wireValuesUptoRow.holds Try.pinned (OpenSpec.upto wireValuesSpec)

/-- 'actorgridlaw1.WireRoundTrip', WHERE WHAT IT READS IS OF BULK AT MOST 1048576: true; the input reads as it did. -/
def wireRoundTripUptoRow : OpenClaim := { program := "ytbnjdkpangmneaa", sum := "6a61ce99017d9f3e6055fc026f4b05ff0d6aa202bb5f5634b9474c296e0143d1", func := "actorgrid/actorgridlaw1.WireRoundTrip", spec := "wireRoundTrip", unfollowed := true, recurses := true, apart := false, narrowed := true }
def WireRoundTripUptoSaid : Prop := wireRoundTripUptoRow.holds Try.pinned (OpenSpec.upto wireRoundTripSpec)

end Rows
end Go.Proofs.Ytbnjdkpangmneaa
