/-
  No cell of these rows narrows 'for every input' (looked for: loops, veiled, ifaces, maps, wideKeys, modest, calm, conditions, laid).
  DERIVED. THE GIVEN ROWS OF THIS SEAT. 13 by the template 'for every input the law returns true; each argument reads behind the call as it read before'; 0 by the template 'total and deterministic' (their statements: YtifehkjcccjccaaTotals.lean).
  GIVEN WITH THE SEED: the statements are not yours to turn. If you find one false, say at which input.
  Laid BY PROGRAM, IN A SANDBOX (cutbox-rows.mjs): the forced cells as the released guide's own fill.sh prints them over the translation 65cf3bc852b7cba7… (all of the seat's roots in one cut). By AI agents, Wed Nov 11 2026. No macro, syntax, notation, axiom, sorry.
-/
import Derived.Test.YtifehkjcccjccaaChecked
import GoSem.Claim
import GoSem.ClaimJoined
import GoSem.ClaimMapViews
import Derived.JoinedTies
import Derived.KernelRfl
namespace Go.Proofs.Ytifehkjcccjccaa
/- THE CELL 'sum', in the pinned program and in every row, IS THE sha256 OF THE DUMP (.gsa) THAT YtifehkjcccjccaaProg.lean LOADS. Nothing in Lean hashes anything: it is a label: what it is worth is what the hold of that sum in a sandbox is worth. -/
noncomputable def Try.pinned : Pinned := { name := "ytifehkjcccjccaa", sum := "65cf3bc852b7cba7c7248eb3ef87f076c095feee9c96d91e3d2ce57767f8db9f", checked := Try.checked }
namespace Rows
def none {H : Type} : Left H := { results := [], args := [] }

/-- 'symbolonlaw01.RingTells': WHATEVER THE INPUT: true; the input reads as it did. -/
def ringTellsSpec : ChangeSpec := { name := "ringTells", fn := fun _ => fun
  | [d1, d2, d3] => { results := [.lit (.bool true)], args := [d1, d2, d3] }
  | _ => none }
def ringTellsRow : OpenClaim := { program := "ytifehkjcccjccaa", sum := "65cf3bc852b7cba7c7248eb3ef87f076c095feee9c96d91e3d2ce57767f8db9f", func := "symbolon/symbolonlaw01.RingTells", spec := "ringTells", unfollowed := true, recurses := true, apart := false }
def RingTellsSaid : Prop := ringTellsRow.holds Try.pinned (OpenSpec.ofChange ringTellsSpec)

/-- ITS FALSE NEIGHBOUR: 'it returns false'. Refute it at one input. -/
def ringTellsWrong : ChangeSpec := { name := "ringTells", fn := fun _ => fun
  | [d1, d2, d3] => { results := [.lit (.bool false)], args := [d1, d2, d3] }
  | _ => none }
def RingTellsWrongFalsely : Prop := ringTellsRow.holds Try.pinned (OpenSpec.ofChange ringTellsWrong)

/-- 'symbolonlaw01.RingLaws': WHATEVER THE INPUT: true; the input reads as it did. -/
def ringLawsSpec : ChangeSpec := { name := "ringLaws", fn := fun _ => fun
  | [d1, d2, d3] => { results := [.lit (.bool true)], args := [d1, d2, d3] }
  | _ => none }
def ringLawsRow : OpenClaim := { program := "ytifehkjcccjccaa", sum := "65cf3bc852b7cba7c7248eb3ef87f076c095feee9c96d91e3d2ce57767f8db9f", func := "symbolon/symbolonlaw01.RingLaws", spec := "ringLaws", unfollowed := true, recurses := true, apart := false }
def RingLawsSaid : Prop := ringLawsRow.holds Try.pinned (OpenSpec.ofChange ringLawsSpec)

/-- ITS FALSE NEIGHBOUR: 'it returns false'. Refute it at one input. -/
def ringLawsWrong : ChangeSpec := { name := "ringLaws", fn := fun _ => fun
  | [d1, d2, d3] => { results := [.lit (.bool false)], args := [d1, d2, d3] }
  | _ => none }
def RingLawsWrongFalsely : Prop := ringLawsRow.holds Try.pinned (OpenSpec.ofChange ringLawsWrong)

/-- 'symbolonlaw01.RingBack': WHATEVER THE INPUT: true; the input reads as it did. -/
def ringBackSpec : ChangeSpec := { name := "ringBack", fn := fun _ => fun
  | [d1, d2] => { results := [.lit (.bool true)], args := [d1, d2] }
  | _ => none }
def ringBackRow : OpenClaim := { program := "ytifehkjcccjccaa", sum := "65cf3bc852b7cba7c7248eb3ef87f076c095feee9c96d91e3d2ce57767f8db9f", func := "symbolon/symbolonlaw01.RingBack", spec := "ringBack", unfollowed := true, recurses := true, apart := false }
def RingBackSaid : Prop := ringBackRow.holds Try.pinned (OpenSpec.ofChange ringBackSpec)

/-- ITS FALSE NEIGHBOUR: 'it returns false'. Refute it at one input. -/
def ringBackWrong : ChangeSpec := { name := "ringBack", fn := fun _ => fun
  | [d1, d2] => { results := [.lit (.bool false)], args := [d1, d2] }
  | _ => none }
def RingBackWrongFalsely : Prop := ringBackRow.holds Try.pinned (OpenSpec.ofChange ringBackWrong)

/-- 'symbolonlaw01.RingDot': WHATEVER THE INPUT: true; the input reads as it did. -/
def ringDotSpec : ChangeSpec := { name := "ringDot", fn := fun _ => fun
  | [d1, d2, d3, d4] => { results := [.lit (.bool true)], args := [d1, d2, d3, d4] }
  | _ => none }
def ringDotRow : OpenClaim := { program := "ytifehkjcccjccaa", sum := "65cf3bc852b7cba7c7248eb3ef87f076c095feee9c96d91e3d2ce57767f8db9f", func := "symbolon/symbolonlaw01.RingDot", spec := "ringDot", unfollowed := true, recurses := true, apart := false }
def RingDotSaid : Prop := ringDotRow.holds Try.pinned (OpenSpec.ofChange ringDotSpec)

/-- ITS FALSE NEIGHBOUR: 'it returns false'. Refute it at one input. -/
def ringDotWrong : ChangeSpec := { name := "ringDot", fn := fun _ => fun
  | [d1, d2, d3, d4] => { results := [.lit (.bool false)], args := [d1, d2, d3, d4] }
  | _ => none }
def RingDotWrongFalsely : Prop := ringDotRow.holds Try.pinned (OpenSpec.ofChange ringDotWrong)

/-- 'symbolonlaw01.RingParts': WHATEVER THE INPUT: true; the input reads as it did. -/
def ringPartsSpec : ChangeSpec := { name := "ringParts", fn := fun _ => fun
  | [d1, d2, d3] => { results := [.lit (.bool true)], args := [d1, d2, d3] }
  | _ => none }
def ringPartsRow : OpenClaim := { program := "ytifehkjcccjccaa", sum := "65cf3bc852b7cba7c7248eb3ef87f076c095feee9c96d91e3d2ce57767f8db9f", func := "symbolon/symbolonlaw01.RingParts", spec := "ringParts", unfollowed := true, recurses := true, apart := false }
def RingPartsSaid : Prop := ringPartsRow.holds Try.pinned (OpenSpec.ofChange ringPartsSpec)

/-- ITS FALSE NEIGHBOUR: 'it returns false'. Refute it at one input. -/
def ringPartsWrong : ChangeSpec := { name := "ringParts", fn := fun _ => fun
  | [d1, d2, d3] => { results := [.lit (.bool false)], args := [d1, d2, d3] }
  | _ => none }
def RingPartsWrongFalsely : Prop := ringPartsRow.holds Try.pinned (OpenSpec.ofChange ringPartsWrong)

/-- 'symbolonlaw01.RingInverse': WHATEVER THE INPUT: true; the input reads as it did. -/
def ringInverseSpec : ChangeSpec := { name := "ringInverse", fn := fun _ => fun
  | [d1, d2] => { results := [.lit (.bool true)], args := [d1, d2] }
  | _ => none }
def ringInverseRow : OpenClaim := { program := "ytifehkjcccjccaa", sum := "65cf3bc852b7cba7c7248eb3ef87f076c095feee9c96d91e3d2ce57767f8db9f", func := "symbolon/symbolonlaw01.RingInverse", spec := "ringInverse", unfollowed := true, recurses := true, apart := false }
def RingInverseSaid : Prop := ringInverseRow.holds Try.pinned (OpenSpec.ofChange ringInverseSpec)

/-- ITS FALSE NEIGHBOUR: 'it returns false'. Refute it at one input. -/
def ringInverseWrong : ChangeSpec := { name := "ringInverse", fn := fun _ => fun
  | [d1, d2] => { results := [.lit (.bool false)], args := [d1, d2] }
  | _ => none }
def RingInverseWrongFalsely : Prop := ringInverseRow.holds Try.pinned (OpenSpec.ofChange ringInverseWrong)

/-- 'symbolonlaw01.RingSides': WHATEVER THE INPUT: true; the input reads as it did. -/
def ringSidesSpec : ChangeSpec := { name := "ringSides", fn := fun _ => fun
  | [d1, d2] => { results := [.lit (.bool true)], args := [d1, d2] }
  | _ => none }
def ringSidesRow : OpenClaim := { program := "ytifehkjcccjccaa", sum := "65cf3bc852b7cba7c7248eb3ef87f076c095feee9c96d91e3d2ce57767f8db9f", func := "symbolon/symbolonlaw01.RingSides", spec := "ringSides", unfollowed := true, recurses := true, apart := false }
def RingSidesSaid : Prop := ringSidesRow.holds Try.pinned (OpenSpec.ofChange ringSidesSpec)

/-- ITS FALSE NEIGHBOUR: 'it returns false'. Refute it at one input. -/
def ringSidesWrong : ChangeSpec := { name := "ringSides", fn := fun _ => fun
  | [d1, d2] => { results := [.lit (.bool false)], args := [d1, d2] }
  | _ => none }
def RingSidesWrongFalsely : Prop := ringSidesRow.holds Try.pinned (OpenSpec.ofChange ringSidesWrong)

/-- 'symbolonlaw10.ShareTells': WHATEVER THE INPUT: true; the input reads as it did. -/
def shareTellsSpec : ChangeSpec := { name := "shareTells", fn := fun _ => fun
  | [d1, d2, d3, d4] => { results := [.lit (.bool true)], args := [d1, d2, d3, d4] }
  | _ => none }
def shareTellsRow : OpenClaim := { program := "ytifehkjcccjccaa", sum := "65cf3bc852b7cba7c7248eb3ef87f076c095feee9c96d91e3d2ce57767f8db9f", func := "symbolon/symbolonlaw10.ShareTells", spec := "shareTells", unfollowed := true, recurses := true, apart := false }
def ShareTellsSaid : Prop := shareTellsRow.holds Try.pinned (OpenSpec.ofChange shareTellsSpec)

/-- ITS FALSE NEIGHBOUR: 'it returns false'. Refute it at one input. -/
def shareTellsWrong : ChangeSpec := { name := "shareTells", fn := fun _ => fun
  | [d1, d2, d3, d4] => { results := [.lit (.bool false)], args := [d1, d2, d3, d4] }
  | _ => none }
def ShareTellsWrongFalsely : Prop := shareTellsRow.holds Try.pinned (OpenSpec.ofChange shareTellsWrong)

/-- 'symbolonlaw10.ShareBack': WHATEVER THE INPUT: true; the input reads as it did. -/
def shareBackSpec : ChangeSpec := { name := "shareBack", fn := fun _ => fun
  | [d1, d2] => { results := [.lit (.bool true)], args := [d1, d2] }
  | _ => none }
def shareBackRow : OpenClaim := { program := "ytifehkjcccjccaa", sum := "65cf3bc852b7cba7c7248eb3ef87f076c095feee9c96d91e3d2ce57767f8db9f", func := "symbolon/symbolonlaw10.ShareBack", spec := "shareBack", unfollowed := true, recurses := true, apart := false }
def ShareBackSaid : Prop := shareBackRow.holds Try.pinned (OpenSpec.ofChange shareBackSpec)

/-- ITS FALSE NEIGHBOUR: 'it returns false'. Refute it at one input. -/
def shareBackWrong : ChangeSpec := { name := "shareBack", fn := fun _ => fun
  | [d1, d2] => { results := [.lit (.bool false)], args := [d1, d2] }
  | _ => none }
def ShareBackWrongFalsely : Prop := shareBackRow.holds Try.pinned (OpenSpec.ofChange shareBackWrong)

/-- 'symbolonlaw10.ShareMasks': WHATEVER THE INPUT: true; the input reads as it did. -/
def shareMasksSpec : ChangeSpec := { name := "shareMasks", fn := fun _ => fun
  | [d1, d2, d3] => { results := [.lit (.bool true)], args := [d1, d2, d3] }
  | _ => none }
def shareMasksRow : OpenClaim := { program := "ytifehkjcccjccaa", sum := "65cf3bc852b7cba7c7248eb3ef87f076c095feee9c96d91e3d2ce57767f8db9f", func := "symbolon/symbolonlaw10.ShareMasks", spec := "shareMasks", unfollowed := true, recurses := true, apart := false }
def ShareMasksSaid : Prop := shareMasksRow.holds Try.pinned (OpenSpec.ofChange shareMasksSpec)

/-- ITS FALSE NEIGHBOUR: 'it returns false'. Refute it at one input. -/
def shareMasksWrong : ChangeSpec := { name := "shareMasks", fn := fun _ => fun
  | [d1, d2, d3] => { results := [.lit (.bool false)], args := [d1, d2, d3] }
  | _ => none }
def ShareMasksWrongFalsely : Prop := shareMasksRow.holds Try.pinned (OpenSpec.ofChange shareMasksWrong)

/-- 'symbolonlaw10.ShareAny': WHATEVER THE INPUT: true; the input reads as it did. -/
def shareAnySpec : ChangeSpec := { name := "shareAny", fn := fun _ => fun
  | [d1, d2] => { results := [.lit (.bool true)], args := [d1, d2] }
  | _ => none }
def shareAnyRow : OpenClaim := { program := "ytifehkjcccjccaa", sum := "65cf3bc852b7cba7c7248eb3ef87f076c095feee9c96d91e3d2ce57767f8db9f", func := "symbolon/symbolonlaw10.ShareAny", spec := "shareAny", unfollowed := true, recurses := true, apart := false }
def ShareAnySaid : Prop := shareAnyRow.holds Try.pinned (OpenSpec.ofChange shareAnySpec)

/-- ITS FALSE NEIGHBOUR: 'it returns false'. Refute it at one input. -/
def shareAnyWrong : ChangeSpec := { name := "shareAny", fn := fun _ => fun
  | [d1, d2] => { results := [.lit (.bool false)], args := [d1, d2] }
  | _ => none }
def ShareAnyWrongFalsely : Prop := shareAnyRow.holds Try.pinned (OpenSpec.ofChange shareAnyWrong)

/-- 'symbolonlaw10.ShareSums': WHATEVER THE INPUT: true; the input reads as it did. -/
def shareSumsSpec : ChangeSpec := { name := "shareSums", fn := fun _ => fun
  | [d1, d2, d3, d4, d5] => { results := [.lit (.bool true)], args := [d1, d2, d3, d4, d5] }
  | _ => none }
def shareSumsRow : OpenClaim := { program := "ytifehkjcccjccaa", sum := "65cf3bc852b7cba7c7248eb3ef87f076c095feee9c96d91e3d2ce57767f8db9f", func := "symbolon/symbolonlaw10.ShareSums", spec := "shareSums", unfollowed := true, recurses := true, apart := false }
def ShareSumsSaid : Prop := shareSumsRow.holds Try.pinned (OpenSpec.ofChange shareSumsSpec)

/-- ITS FALSE NEIGHBOUR: 'it returns false'. Refute it at one input. -/
def shareSumsWrong : ChangeSpec := { name := "shareSums", fn := fun _ => fun
  | [d1, d2, d3, d4, d5] => { results := [.lit (.bool false)], args := [d1, d2, d3, d4, d5] }
  | _ => none }
def ShareSumsWrongFalsely : Prop := shareSumsRow.holds Try.pinned (OpenSpec.ofChange shareSumsWrong)

/-- 'symbolonlaw10.ShareKnown': WHATEVER THE INPUT: true; the input reads as it did. -/
def shareKnownSpec : ChangeSpec := { name := "shareKnown", fn := fun _ => fun
  | [d1, d2, d3, d4] => { results := [.lit (.bool true)], args := [d1, d2, d3, d4] }
  | _ => none }
def shareKnownRow : OpenClaim := { program := "ytifehkjcccjccaa", sum := "65cf3bc852b7cba7c7248eb3ef87f076c095feee9c96d91e3d2ce57767f8db9f", func := "symbolon/symbolonlaw10.ShareKnown", spec := "shareKnown", unfollowed := true, recurses := true, apart := false }
def ShareKnownSaid : Prop := shareKnownRow.holds Try.pinned (OpenSpec.ofChange shareKnownSpec)

/-- ITS FALSE NEIGHBOUR: 'it returns false'. Refute it at one input. -/
def shareKnownWrong : ChangeSpec := { name := "shareKnown", fn := fun _ => fun
  | [d1, d2, d3, d4] => { results := [.lit (.bool false)], args := [d1, d2, d3, d4] }
  | _ => none }
def ShareKnownWrongFalsely : Prop := shareKnownRow.holds Try.pinned (OpenSpec.ofChange shareKnownWrong)

/- THE SECOND FORM. 'bulk': how many values and letters a reading holds, each counted each time it is reached (what is shared counts as often as it is met; a slice's spare places count too). A statement '..UptoSaid' is the law's where the arguments, and the package variables that the reading takes, are together of bulk at most 1048576: NARROWER than '..Said'. Prove '..Said' where nothing that the law and all that it calls make is longer than what came in: it says more and counts as full. Else prove '..UptoSaid'. A law counts once. -/
mutual
def uptoBulk {H : Type} : DataW H → Nat
  | .lit (.string bytes) => bytes.length + 1
  | .lit _ => 1
  | .nil => 1
  | .ptr d => uptoBulk d + 1
  | .slice elems spare => uptoBulkAll elems + uptoBulkAll spare + 1
  | .agg parts => uptoBulkAll parts + 1
  | .iface _ d => uptoBulk d + 1
  | .map entries => uptoBulkEntries entries + 1
  | .held _ => 1
def uptoBulkAll {H : Type} : List (DataW H) → Nat
  | [] => 0
  | d :: r => uptoBulk d + uptoBulkAll r
def uptoBulkEntries {H : Type} : List (Lit × DataW H) → Nat
  | [] => 0
  | x :: r => uptoBulkEntry x + uptoBulkEntries r
def uptoBulkEntry {H : Type} : Lit × DataW H → Nat
  | (.string bytes, d) => bytes.length + uptoBulk d + 1
  | (_, d) => uptoBulk d + 1
 end
def uptoSmall : (H : Type) → List (DataW H) → Bool := fun _ ds => decide (uptoBulkAll ds ≤ 1048576)
def OpenSpec.upto (s : _root_.Go.ChangeSpec) : _root_.Go.OpenSpec := { _root_.Go.OpenSpec.ofChange s with cond := some uptoSmall }

/-- 'symbolonlaw01.RingTells', WHERE WHAT IT READS IS OF BULK AT MOST 1048576: true; the input reads as it did. -/
def ringTellsUptoRow : OpenClaim := { program := "ytifehkjcccjccaa", sum := "65cf3bc852b7cba7c7248eb3ef87f076c095feee9c96d91e3d2ce57767f8db9f", func := "symbolon/symbolonlaw01.RingTells", spec := "ringTells", unfollowed := true, recurses := true, apart := false, narrowed := true }
def RingTellsUptoSaid : Prop := ringTellsUptoRow.holds Try.pinned (OpenSpec.upto ringTellsSpec)

/-- 'symbolonlaw01.RingLaws', WHERE WHAT IT READS IS OF BULK AT MOST 1048576: true; the input reads as it did. -/
def ringLawsUptoRow : OpenClaim := { program := "ytifehkjcccjccaa", sum := "65cf3bc852b7cba7c7248eb3ef87f076c095feee9c96d91e3d2ce57767f8db9f", func := "symbolon/symbolonlaw01.RingLaws", spec := "ringLaws", unfollowed := true, recurses := true, apart := false, narrowed := true }
def RingLawsUptoSaid : Prop := ringLawsUptoRow.holds Try.pinned (OpenSpec.upto ringLawsSpec)

/-- 'symbolonlaw01.RingBack', WHERE WHAT IT READS IS OF BULK AT MOST 1048576: true; the input reads as it did. -/
def ringBackUptoRow : OpenClaim := { program := "ytifehkjcccjccaa", sum := "65cf3bc852b7cba7c7248eb3ef87f076c095feee9c96d91e3d2ce57767f8db9f", func := "symbolon/symbolonlaw01.RingBack", spec := "ringBack", unfollowed := true, recurses := true, apart := false, narrowed := true }
def RingBackUptoSaid : Prop := ringBackUptoRow.holds Try.pinned (OpenSpec.upto ringBackSpec)

/-- 'symbolonlaw01.RingDot', WHERE WHAT IT READS IS OF BULK AT MOST 1048576: true; the input reads as it did. -/
def ringDotUptoRow : OpenClaim := { program := "ytifehkjcccjccaa", sum := "65cf3bc852b7cba7c7248eb3ef87f076c095feee9c96d91e3d2ce57767f8db9f", func := "symbolon/symbolonlaw01.RingDot", spec := "ringDot", unfollowed := true, recurses := true, apart := false, narrowed := true }
def RingDotUptoSaid : Prop := ringDotUptoRow.holds Try.pinned (OpenSpec.upto ringDotSpec)

/-- 'symbolonlaw01.RingParts', WHERE WHAT IT READS IS OF BULK AT MOST 1048576: true; the input reads as it did. -/
def ringPartsUptoRow : OpenClaim := { program := "ytifehkjcccjccaa", sum := "65cf3bc852b7cba7c7248eb3ef87f076c095feee9c96d91e3d2ce57767f8db9f", func := "symbolon/symbolonlaw01.RingParts", spec := "ringParts", unfollowed := true, recurses := true, apart := false, narrowed := true }
def RingPartsUptoSaid : Prop := ringPartsUptoRow.holds Try.pinned (OpenSpec.upto ringPartsSpec)

/-- 'symbolonlaw01.RingInverse', WHERE WHAT IT READS IS OF BULK AT MOST 1048576: true; the input reads as it did. -/
def ringInverseUptoRow : OpenClaim := { program := "ytifehkjcccjccaa", sum := "65cf3bc852b7cba7c7248eb3ef87f076c095feee9c96d91e3d2ce57767f8db9f", func := "symbolon/symbolonlaw01.RingInverse", spec := "ringInverse", unfollowed := true, recurses := true, apart := false, narrowed := true }
def RingInverseUptoSaid : Prop := ringInverseUptoRow.holds Try.pinned (OpenSpec.upto ringInverseSpec)

/-- 'symbolonlaw01.RingSides', WHERE WHAT IT READS IS OF BULK AT MOST 1048576: true; the input reads as it did. -/
def ringSidesUptoRow : OpenClaim := { program := "ytifehkjcccjccaa", sum := "65cf3bc852b7cba7c7248eb3ef87f076c095feee9c96d91e3d2ce57767f8db9f", func := "symbolon/symbolonlaw01.RingSides", spec := "ringSides", unfollowed := true, recurses := true, apart := false, narrowed := true }
def RingSidesUptoSaid : Prop := ringSidesUptoRow.holds Try.pinned (OpenSpec.upto ringSidesSpec)

/-- 'symbolonlaw10.ShareTells', WHERE WHAT IT READS IS OF BULK AT MOST 1048576: true; the input reads as it did. -/
def shareTellsUptoRow : OpenClaim := { program := "ytifehkjcccjccaa", sum := "65cf3bc852b7cba7c7248eb3ef87f076c095feee9c96d91e3d2ce57767f8db9f", func := "symbolon/symbolonlaw10.ShareTells", spec := "shareTells", unfollowed := true, recurses := true, apart := false, narrowed := true }
def ShareTellsUptoSaid : Prop := shareTellsUptoRow.holds Try.pinned (OpenSpec.upto shareTellsSpec)

/-- 'symbolonlaw10.ShareBack', WHERE WHAT IT READS IS OF BULK AT MOST 1048576: true; the input reads as it did. -/
def shareBackUptoRow : OpenClaim := { program := "ytifehkjcccjccaa", sum := "65cf3bc852b7cba7c7248eb3ef87f076c095feee9c96d91e3d2ce57767f8db9f", func := "symbolon/symbolonlaw10.ShareBack", spec := "shareBack", unfollowed := true, recurses := true, apart := false, narrowed := true }
def ShareBackUptoSaid : Prop := shareBackUptoRow.holds Try.pinned (OpenSpec.upto shareBackSpec)

/-- 'symbolonlaw10.ShareMasks', WHERE WHAT IT READS IS OF BULK AT MOST 1048576: true; the input reads as it did. -/
def shareMasksUptoRow : OpenClaim := { program := "ytifehkjcccjccaa", sum := "65cf3bc852b7cba7c7248eb3ef87f076c095feee9c96d91e3d2ce57767f8db9f", func := "symbolon/symbolonlaw10.ShareMasks", spec := "shareMasks", unfollowed := true, recurses := true, apart := false, narrowed := true }
def ShareMasksUptoSaid : Prop := shareMasksUptoRow.holds Try.pinned (OpenSpec.upto shareMasksSpec)

/-- 'symbolonlaw10.ShareAny', WHERE WHAT IT READS IS OF BULK AT MOST 1048576: true; the input reads as it did. -/
def shareAnyUptoRow : OpenClaim := { program := "ytifehkjcccjccaa", sum := "65cf3bc852b7cba7c7248eb3ef87f076c095feee9c96d91e3d2ce57767f8db9f", func := "symbolon/symbolonlaw10.ShareAny", spec := "shareAny", unfollowed := true, recurses := true, apart := false, narrowed := true }
def ShareAnyUptoSaid : Prop := shareAnyUptoRow.holds Try.pinned (OpenSpec.upto shareAnySpec)

/-- 'symbolonlaw10.ShareSums', WHERE WHAT IT READS IS OF BULK AT MOST 1048576: true; the input reads as it did. -/
def shareSumsUptoRow : OpenClaim := { program := "ytifehkjcccjccaa", sum := "65cf3bc852b7cba7c7248eb3ef87f076c095feee9c96d91e3d2ce57767f8db9f", func := "symbolon/symbolonlaw10.ShareSums", spec := "shareSums", unfollowed := true, recurses := true, apart := false, narrowed := true }
def ShareSumsUptoSaid : Prop := shareSumsUptoRow.holds Try.pinned (OpenSpec.upto shareSumsSpec)

/-- 'symbolonlaw10.ShareKnown', WHERE WHAT IT READS IS OF BULK AT MOST 1048576: true; the input reads as it did. -/
def shareKnownUptoRow : OpenClaim := { program := "ytifehkjcccjccaa", sum := "65cf3bc852b7cba7c7248eb3ef87f076c095feee9c96d91e3d2ce57767f8db9f", func := "symbolon/symbolonlaw10.ShareKnown", spec := "shareKnown", unfollowed := true, recurses := true, apart := false, narrowed := true }
def ShareKnownUptoSaid : Prop := shareKnownUptoRow.holds Try.pinned (OpenSpec.upto shareKnownSpec)

end Rows
end Go.Proofs.Ytifehkjcccjccaa
