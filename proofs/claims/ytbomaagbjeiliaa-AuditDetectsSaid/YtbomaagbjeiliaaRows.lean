/-
  No cell of these rows narrows 'for every input' (looked for: loops, veiled, ifaces, maps, wideKeys, modest, calm, conditions, laid).
  DERIVED. THE GIVEN ROWS OF THIS SEAT. 9 by the template 'for every input the law returns true; each argument reads behind the call as it read before'; 0 by the template 'total and deterministic' (their statements: YtbomaagbjeiliaaTotals.lean).
  GIVEN WITH THE SEED: the statements are not yours to turn. If you find one false, say at which input.
  Laid BY PROGRAM, IN A SANDBOX (cutbox-rows.mjs): the forced cells as the released guide's own fill.sh prints them over the translation c150bfe59000f49d… (all of the seat's roots in one cut). By AI agents, Wed Nov 11 2026. No macro, syntax, notation, axiom, sorry.
-/
import Derived.Test.YtbomaagbjeiliaaChecked
import GoSem.Claim
import GoSem.ClaimJoined
import GoSem.ClaimMapViews
import Derived.JoinedTies
import Derived.KernelRfl
namespace Go.Proofs.Ytbomaagbjeiliaa
/- THE CELL 'sum', in the pinned program and in every row, IS THE sha256 OF THE DUMP (.gsa) THAT YtbomaagbjeiliaaProg.lean LOADS. Nothing in Lean hashes anything: it is a label: what it is worth is what the hold of that sum in a sandbox is worth. -/
noncomputable def Try.pinned : Pinned := { name := "ytbomaagbjeiliaa", sum := "c150bfe59000f49da8132f055265d8d19c9e2ed62c45d5eae722051039703d0c", checked := Try.checked }
namespace Rows
def none {H : Type} : Left H := { results := [], args := [] }

/-- 'actorgridlaw2.HashMixes': WHATEVER THE INPUT: true; the input reads as it did. -/
def hashMixesSpec : ChangeSpec := { name := "hashMixes", fn := fun _ => fun
  | [d] => { results := [.lit (.bool true)], args := [d] }
  | _ => none }
def hashMixesRow : OpenClaim := { program := "ytbomaagbjeiliaa", sum := "c150bfe59000f49da8132f055265d8d19c9e2ed62c45d5eae722051039703d0c", func := "actorgrid/actorgridlaw2.HashMixes", spec := "hashMixes", apart := false }
def HashMixesSaid : Prop := hashMixesRow.holds Try.pinned (OpenSpec.ofChange hashMixesSpec)

/-- ITS FALSE NEIGHBOUR: 'it returns false'. Refute it at one input. -/
def hashMixesWrong : ChangeSpec := { name := "hashMixes", fn := fun _ => fun
  | [d] => { results := [.lit (.bool false)], args := [d] }
  | _ => none }
def HashMixesWrongFalsely : Prop := hashMixesRow.holds Try.pinned (OpenSpec.ofChange hashMixesWrong)

/-- 'actorgridlaw2.HashTexts': WHATEVER THE INPUT: true; the input reads as it did. -/
def hashTextsSpec : ChangeSpec := { name := "hashTexts", fn := fun _ => fun
  | [d1, d2, d3] => { results := [.lit (.bool true)], args := [d1, d2, d3] }
  | _ => none }
def hashTextsRow : OpenClaim := { program := "ytbomaagbjeiliaa", sum := "c150bfe59000f49da8132f055265d8d19c9e2ed62c45d5eae722051039703d0c", func := "actorgrid/actorgridlaw2.HashTexts", spec := "hashTexts", apart := false }
def HashTextsSaid : Prop := hashTextsRow.holds Try.pinned (OpenSpec.ofChange hashTextsSpec)

/-- ITS FALSE NEIGHBOUR: 'it returns false'. Refute it at one input. -/
def hashTextsWrong : ChangeSpec := { name := "hashTexts", fn := fun _ => fun
  | [d1, d2, d3] => { results := [.lit (.bool false)], args := [d1, d2, d3] }
  | _ => none }
def HashTextsWrongFalsely : Prop := hashTextsRow.holds Try.pinned (OpenSpec.ofChange hashTextsWrong)

/-- 'actorgridlaw2.HashBijective': WHATEVER THE INPUT: true; the input reads as it did. -/
def hashBijectiveSpec : ChangeSpec := { name := "hashBijective", fn := fun _ => fun
  | [d1, d2] => { results := [.lit (.bool true)], args := [d1, d2] }
  | _ => none }
def hashBijectiveRow : OpenClaim := { program := "ytbomaagbjeiliaa", sum := "c150bfe59000f49da8132f055265d8d19c9e2ed62c45d5eae722051039703d0c", func := "actorgrid/actorgridlaw2.HashBijective", spec := "hashBijective", apart := false }
def HashBijectiveSaid : Prop := hashBijectiveRow.holds Try.pinned (OpenSpec.ofChange hashBijectiveSpec)

/-- ITS FALSE NEIGHBOUR: 'it returns false'. Refute it at one input. -/
def hashBijectiveWrong : ChangeSpec := { name := "hashBijective", fn := fun _ => fun
  | [d1, d2] => { results := [.lit (.bool false)], args := [d1, d2] }
  | _ => none }
def HashBijectiveWrongFalsely : Prop := hashBijectiveRow.holds Try.pinned (OpenSpec.ofChange hashBijectiveWrong)

/-- 'actorgridlaw2.HashInjective': WHATEVER THE INPUT: true; the input reads as it did. -/
def hashInjectiveSpec : ChangeSpec := { name := "hashInjective", fn := fun _ => fun
  | [d1, d2, d3, d4, d5, d6] => { results := [.lit (.bool true)], args := [d1, d2, d3, d4, d5, d6] }
  | _ => none }
def hashInjectiveRow : OpenClaim := { program := "ytbomaagbjeiliaa", sum := "c150bfe59000f49da8132f055265d8d19c9e2ed62c45d5eae722051039703d0c", func := "actorgrid/actorgridlaw2.HashInjective", spec := "hashInjective", apart := false }
def HashInjectiveSaid : Prop := hashInjectiveRow.holds Try.pinned (OpenSpec.ofChange hashInjectiveSpec)

/-- ITS FALSE NEIGHBOUR: 'it returns false'. Refute it at one input. -/
def hashInjectiveWrong : ChangeSpec := { name := "hashInjective", fn := fun _ => fun
  | [d1, d2, d3, d4, d5, d6] => { results := [.lit (.bool false)], args := [d1, d2, d3, d4, d5, d6] }
  | _ => none }
def HashInjectiveWrongFalsely : Prop := hashInjectiveRow.holds Try.pinned (OpenSpec.ofChange hashInjectiveWrong)

/-- 'actorgridlaw2.HashPlaces': WHATEVER THE INPUT: true; the input reads as it did. -/
def hashPlacesSpec : ChangeSpec := { name := "hashPlaces", fn := fun _ => fun
  | [d1, d2, d3, d4, d5] => { results := [.lit (.bool true)], args := [d1, d2, d3, d4, d5] }
  | _ => none }
def hashPlacesRow : OpenClaim := { program := "ytbomaagbjeiliaa", sum := "c150bfe59000f49da8132f055265d8d19c9e2ed62c45d5eae722051039703d0c", func := "actorgrid/actorgridlaw2.HashPlaces", spec := "hashPlaces", apart := false }
def HashPlacesSaid : Prop := hashPlacesRow.holds Try.pinned (OpenSpec.ofChange hashPlacesSpec)

/-- ITS FALSE NEIGHBOUR: 'it returns false'. Refute it at one input. -/
def hashPlacesWrong : ChangeSpec := { name := "hashPlaces", fn := fun _ => fun
  | [d1, d2, d3, d4, d5] => { results := [.lit (.bool false)], args := [d1, d2, d3, d4, d5] }
  | _ => none }
def HashPlacesWrongFalsely : Prop := hashPlacesRow.holds Try.pinned (OpenSpec.ofChange hashPlacesWrong)

/-- 'actorgridlaw42.AuditChains': WHATEVER THE INPUT: true; the input reads as it did. -/
def auditChainsSpec : ChangeSpec := { name := "auditChains", fn := fun _ => fun
  | [d1, d2, d3, d4, d5] => { results := [.lit (.bool true)], args := [d1, d2, d3, d4, d5] }
  | _ => none }
def auditChainsRow : OpenClaim := { program := "ytbomaagbjeiliaa", sum := "c150bfe59000f49da8132f055265d8d19c9e2ed62c45d5eae722051039703d0c", func := "actorgrid/actorgridlaw42.AuditChains", spec := "auditChains", apart := false }
def AuditChainsSaid : Prop := auditChainsRow.holds Try.pinned (OpenSpec.ofChange auditChainsSpec)

/-- ITS FALSE NEIGHBOUR: 'it returns false'. Refute it at one input. -/
def auditChainsWrong : ChangeSpec := { name := "auditChains", fn := fun _ => fun
  | [d1, d2, d3, d4, d5] => { results := [.lit (.bool false)], args := [d1, d2, d3, d4, d5] }
  | _ => none }
def AuditChainsWrongFalsely : Prop := auditChainsRow.holds Try.pinned (OpenSpec.ofChange auditChainsWrong)

/-- 'actorgridlaw42.AuditDetects': WHATEVER THE INPUT: true; the input reads as it did. -/
def auditDetectsSpec : ChangeSpec := { name := "auditDetects", fn := fun _ => fun
  | [d1, d2, d3, d4, d5] => { results := [.lit (.bool true)], args := [d1, d2, d3, d4, d5] }
  | _ => none }
def auditDetectsRow : OpenClaim := { program := "ytbomaagbjeiliaa", sum := "c150bfe59000f49da8132f055265d8d19c9e2ed62c45d5eae722051039703d0c", func := "actorgrid/actorgridlaw42.AuditDetects", spec := "auditDetects", apart := false }
def AuditDetectsSaid : Prop := auditDetectsRow.holds Try.pinned (OpenSpec.ofChange auditDetectsSpec)

/-- ITS FALSE NEIGHBOUR: 'it returns false'. Refute it at one input. -/
def auditDetectsWrong : ChangeSpec := { name := "auditDetects", fn := fun _ => fun
  | [d1, d2, d3, d4, d5] => { results := [.lit (.bool false)], args := [d1, d2, d3, d4, d5] }
  | _ => none }
def AuditDetectsWrongFalsely : Prop := auditDetectsRow.holds Try.pinned (OpenSpec.ofChange auditDetectsWrong)

/-- 'actorgridlaw42.AuditParts': WHATEVER THE INPUT: true; the input reads as it did. -/
def auditPartsSpec : ChangeSpec := { name := "auditParts", fn := fun _ => fun
  | [d1, d2, d3, d4, d5, d6] => { results := [.lit (.bool true)], args := [d1, d2, d3, d4, d5, d6] }
  | _ => none }
def auditPartsRow : OpenClaim := { program := "ytbomaagbjeiliaa", sum := "c150bfe59000f49da8132f055265d8d19c9e2ed62c45d5eae722051039703d0c", func := "actorgrid/actorgridlaw42.AuditParts", spec := "auditParts", apart := false }
def AuditPartsSaid : Prop := auditPartsRow.holds Try.pinned (OpenSpec.ofChange auditPartsSpec)

/-- ITS FALSE NEIGHBOUR: 'it returns false'. Refute it at one input. -/
def auditPartsWrong : ChangeSpec := { name := "auditParts", fn := fun _ => fun
  | [d1, d2, d3, d4, d5, d6] => { results := [.lit (.bool false)], args := [d1, d2, d3, d4, d5, d6] }
  | _ => none }
def AuditPartsWrongFalsely : Prop := auditPartsRow.holds Try.pinned (OpenSpec.ofChange auditPartsWrong)

/-- 'actorgridlaw42.AuditForks': WHATEVER THE INPUT: true; the input reads as it did. -/
def auditForksSpec : ChangeSpec := { name := "auditForks", fn := fun _ => fun
  | [d1, d2, d3, d4] => { results := [.lit (.bool true)], args := [d1, d2, d3, d4] }
  | _ => none }
def auditForksRow : OpenClaim := { program := "ytbomaagbjeiliaa", sum := "c150bfe59000f49da8132f055265d8d19c9e2ed62c45d5eae722051039703d0c", func := "actorgrid/actorgridlaw42.AuditForks", spec := "auditForks", apart := false }
def AuditForksSaid : Prop := auditForksRow.holds Try.pinned (OpenSpec.ofChange auditForksSpec)

/-- ITS FALSE NEIGHBOUR: 'it returns false'. Refute it at one input. -/
def auditForksWrong : ChangeSpec := { name := "auditForks", fn := fun _ => fun
  | [d1, d2, d3, d4] => { results := [.lit (.bool false)], args := [d1, d2, d3, d4] }
  | _ => none }
def AuditForksWrongFalsely : Prop := auditForksRow.holds Try.pinned (OpenSpec.ofChange auditForksWrong)

/- THE SECOND FORM. 'bulk': how many values and letters a reading holds, each counted each time it is reached (what is shared counts as often as it is met; a slice's spare places count too). A statement '..UptoSaid' is the law's where the arguments, and the package variables that the reading takes, are together of bulk at most 1048576: NARROWER than '..Said'. Prove '..Said' where nothing that the law and all that it calls make is longer than what came in: it says more and counts as full. Else prove '..UptoSaid'. A law counts once. -/
mutual
def uptoBulk {H : Type} : DataW H → Nat
  | .lit (.string bytes) => bytes.length + 1
  | .lit _ => 1
  | .nil => 1
  | .ptr d => uptoBulk d + 1
  | .slice elems spare => uptoBulkAll elems + uptoBulkAll spare + 1
  | .agg parts => uptoBulkAll parts + 1
  | .iface _ d => uptoBulk d + 1
  | .map entries => uptoBulkEntries entries + 1
  | .held _ => 1
def uptoBulkAll {H : Type} : List (DataW H) → Nat
  | [] => 0
  | d :: r => uptoBulk d + uptoBulkAll r
def uptoBulkEntries {H : Type} : List (Lit × DataW H) → Nat
  | [] => 0
  | x :: r => uptoBulkEntry x + uptoBulkEntries r
def uptoBulkEntry {H : Type} : Lit × DataW H → Nat
  | (.string bytes, d) => bytes.length + uptoBulk d + 1
  | (_, d) => uptoBulk d + 1
 end
def uptoSmall : (H : Type) → List (DataW H) → Bool := fun _ ds => decide (uptoBulkAll ds ≤ 1048576)
def OpenSpec.upto (s : _root_.Go.ChangeSpec) : _root_.Go.OpenSpec := { _root_.Go.OpenSpec.ofChange s with cond := some uptoSmall }

/-- 'actorgridlaw2.HashMixes', WHERE WHAT IT READS IS OF BULK AT MOST 1048576: true; the input reads as it did. -/
def hashMixesUptoRow : OpenClaim := { program := "ytbomaagbjeiliaa", sum := "c150bfe59000f49da8132f055265d8d19c9e2ed62c45d5eae722051039703d0c", func := "actorgrid/actorgridlaw2.HashMixes", spec := "hashMixes", apart := false, narrowed := true }
def HashMixesUptoSaid : Prop := hashMixesUptoRow.holds Try.pinned (OpenSpec.upto hashMixesSpec)

/-- 'actorgridlaw2.HashTexts', WHERE WHAT IT READS IS OF BULK AT MOST 1048576: true; the input reads as it did. -/
def hashTextsUptoRow : OpenClaim := { program := "ytbomaagbjeiliaa", sum := "c150bfe59000f49da8132f055265d8d19c9e2ed62c45d5eae722051039703d0c", func := "actorgrid/actorgridlaw2.HashTexts", spec := "hashTexts", apart := false, narrowed := true }
def HashTextsUptoSaid : Prop := hashTextsUptoRow.holds Try.pinned (OpenSpec.upto hashTextsSpec)

/-- 'actorgridlaw2.HashBijective', WHERE WHAT IT READS IS OF BULK AT MOST 1048576: true; the input reads as it did. -/
def hashBijectiveUptoRow : OpenClaim := { program := "ytbomaagbjeiliaa", sum := "c150bfe59000f49da8132f055265d8d19c9e2ed62c45d5eae722051039703d0c", func := "actorgrid/actorgridlaw2.HashBijective", spec := "hashBijective", apart := false, narrowed := true }
def HashBijectiveUptoSaid : Prop := hashBijectiveUptoRow.holds Try.pinned (OpenSpec.upto hashBijectiveSpec)

/-- 'actorgridlaw2.HashInjective', WHERE WHAT IT READS IS OF BULK AT MOST 1048576: true; the input reads as it did. -/
def hashInjectiveUptoRow : OpenClaim := { program := "ytbomaagbjeiliaa", sum := "c150bfe59000f49da8132f055265d8d19c9e2ed62c45d5eae722051039703d0c", func := "actorgrid/actorgridlaw2.HashInjective", spec := "hashInjective", apart := false, narrowed := true }
def HashInjectiveUptoSaid : Prop := hashInjectiveUptoRow.holds Try.pinned (OpenSpec.upto hashInjectiveSpec)

/-- 'actorgridlaw2.HashPlaces', WHERE WHAT IT READS IS OF BULK AT MOST 1048576: true; the input reads as it did. -/
def hashPlacesUptoRow : OpenClaim := { program := "ytbomaagbjeiliaa", sum := "c150bfe59000f49da8132f055265d8d19c9e2ed62c45d5eae722051039703d0c", func := "actorgrid/actorgridlaw2.HashPlaces", spec := "hashPlaces", apart := false, narrowed := true }
def HashPlacesUptoSaid : Prop := hashPlacesUptoRow.holds Try.pinned (OpenSpec.upto hashPlacesSpec)

/-- 'actorgridlaw42.AuditChains', WHERE WHAT IT READS IS OF BULK AT MOST 1048576: true; the input reads as it did. -/
def auditChainsUptoRow : OpenClaim := { program := "ytbomaagbjeiliaa", sum := "c150bfe59000f49da8132f055265d8d19c9e2ed62c45d5eae722051039703d0c", func := "actorgrid/actorgridlaw42.AuditChains", spec := "auditChains", apart := false, narrowed := true }
def AuditChainsUptoSaid : Prop := auditChainsUptoRow.holds Try.pinned (OpenSpec.upto auditChainsSpec)

/-- 'actorgridlaw42.AuditDetects', WHERE WHAT IT READS IS OF BULK AT MOST 1048576: true; the input reads as it did. -/
def auditDetectsUptoRow : OpenClaim := { program := "ytbomaagbjeiliaa", sum := "c150bfe59000f49da8132f055265d8d19c9e2ed62c45d5eae722051039703d0c", func := "actorgrid/actorgridlaw42.AuditDetects", spec := "auditDetects", apart := false, narrowed := true }
def AuditDetectsUptoSaid : Prop := auditDetectsUptoRow.holds Try.pinned (OpenSpec.upto auditDetectsSpec)

/-- 'actorgridlaw42.AuditParts', WHERE WHAT IT READS IS OF BULK AT MOST 1048576: true; the input reads as it did. -/
def auditPartsUptoRow : OpenClaim := { program := "ytbomaagbjeiliaa", sum := "c150bfe59000f49da8132f055265d8d19c9e2ed62c45d5eae722051039703d0c", func := "actorgrid/actorgridlaw42.AuditParts", spec := "auditParts", apart := false, narrowed := true }
def AuditPartsUptoSaid : Prop := auditPartsUptoRow.holds Try.pinned (OpenSpec.upto auditPartsSpec)

/-- 'actorgridlaw42.AuditForks', WHERE WHAT IT READS IS OF BULK AT MOST 1048576: true; the input reads as it did. -/
def auditForksUptoRow : OpenClaim := { program := "ytbomaagbjeiliaa", sum := "c150bfe59000f49da8132f055265d8d19c9e2ed62c45d5eae722051039703d0c", func := "actorgrid/actorgridlaw42.AuditForks", spec := "auditForks", apart := false, narrowed := true }
def AuditForksUptoSaid : Prop := auditForksUptoRow.holds Try.pinned (OpenSpec.upto auditForksSpec)

end Rows
end Go.Proofs.Ytbomaagbjeiliaa
