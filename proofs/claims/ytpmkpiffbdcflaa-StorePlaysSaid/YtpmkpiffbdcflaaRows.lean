/-
  No cell of these rows narrows 'for every input' (looked for: loops, veiled, ifaces, maps, wideKeys, modest, calm, conditions, laid).
  DERIVED. THE GIVEN ROWS OF THIS SEAT. 7 by the template 'for every input the law returns true; each argument reads behind the call as it read before'; 0 by the template 'total and deterministic' (their statements: YtpmkpiffbdcflaaTotals.lean).
  GIVEN WITH THE SEED: the statements are not yours to turn. If you find one false, say at which input.
  Laid BY PROGRAM, IN A SANDBOX (cutbox-rows.mjs): the forced cells as the released guide's own fill.sh prints them over the translation 5dd57ef79758ed3f… (all of the seat's roots in one cut). By AI agents, Wed Nov 11 2026. No macro, syntax, notation, axiom, sorry.
-/
import Derived.Test.YtpmkpiffbdcflaaChecked
import GoSem.Claim
import GoSem.ClaimJoined
import GoSem.ClaimMapViews
import Derived.JoinedTies
import Derived.KernelRfl
namespace Go.Proofs.Ytpmkpiffbdcflaa
/- THE CELL 'sum', in the pinned program and in every row, IS THE sha256 OF THE DUMP (.gsa) THAT YtpmkpiffbdcflaaProg.lean LOADS. Nothing in Lean hashes anything: it is a label: what it is worth is what the hold of that sum in a sandbox is worth. -/
noncomputable def Try.pinned : Pinned := { name := "ytpmkpiffbdcflaa", sum := "5dd57ef79758ed3ff39b9e34d5c4734f938e913453e9fa2978618dfa0450400a", checked := Try.checked }
namespace Rows
def none {H : Type} : Left H := { results := [], args := [] }

/-- 'symbolonlaw18.StoreStays': WHATEVER THE INPUT: true; the input reads as it did. -/
def storeStaysSpec : ChangeSpec := { name := "storeStays", fn := fun _ => fun
  | [d1, d2] => { results := [.lit (.bool true)], args := [d1, d2] }
  | _ => none }
def storeStaysRow : OpenClaim := { program := "ytpmkpiffbdcflaa", sum := "5dd57ef79758ed3ff39b9e34d5c4734f938e913453e9fa2978618dfa0450400a", func := "symbolon/symbolonlaw18.StoreStays", spec := "storeStays", unfollowed := true, recurses := true, apart := false }
def StoreStaysSaid : Prop := storeStaysRow.holds Try.pinned (OpenSpec.ofChange storeStaysSpec)

/-- ITS FALSE NEIGHBOUR: 'it returns false'. Refute it at one input. -/
def storeStaysWrong : ChangeSpec := { name := "storeStays", fn := fun _ => fun
  | [d1, d2] => { results := [.lit (.bool false)], args := [d1, d2] }
  | _ => none }
def StoreStaysWrongFalsely : Prop := storeStaysRow.holds Try.pinned (OpenSpec.ofChange storeStaysWrong)

/-- 'symbolonlaw18.StoreGens': WHATEVER THE INPUT: true; the input reads as it did. -/
def storeGensSpec : ChangeSpec := { name := "storeGens", fn := fun _ => fun
  | [d1, d2] => { results := [.lit (.bool true)], args := [d1, d2] }
  | _ => none }
def storeGensRow : OpenClaim := { program := "ytpmkpiffbdcflaa", sum := "5dd57ef79758ed3ff39b9e34d5c4734f938e913453e9fa2978618dfa0450400a", func := "symbolon/symbolonlaw18.StoreGens", spec := "storeGens", unfollowed := true, recurses := true, apart := false }
def StoreGensSaid : Prop := storeGensRow.holds Try.pinned (OpenSpec.ofChange storeGensSpec)

/-- ITS FALSE NEIGHBOUR: 'it returns false'. Refute it at one input. -/
def storeGensWrong : ChangeSpec := { name := "storeGens", fn := fun _ => fun
  | [d1, d2] => { results := [.lit (.bool false)], args := [d1, d2] }
  | _ => none }
def StoreGensWrongFalsely : Prop := storeGensRow.holds Try.pinned (OpenSpec.ofChange storeGensWrong)

/-- 'symbolonlaw18.StoreHolds': WHATEVER THE INPUT: true; the input reads as it did. -/
def storeHoldsSpec : ChangeSpec := { name := "storeHolds", fn := fun _ => fun
  | [d1, d2] => { results := [.lit (.bool true)], args := [d1, d2] }
  | _ => none }
def storeHoldsRow : OpenClaim := { program := "ytpmkpiffbdcflaa", sum := "5dd57ef79758ed3ff39b9e34d5c4734f938e913453e9fa2978618dfa0450400a", func := "symbolon/symbolonlaw18.StoreHolds", spec := "storeHolds", unfollowed := true, recurses := true, apart := false }
def StoreHoldsSaid : Prop := storeHoldsRow.holds Try.pinned (OpenSpec.ofChange storeHoldsSpec)

/-- ITS FALSE NEIGHBOUR: 'it returns false'. Refute it at one input. -/
def storeHoldsWrong : ChangeSpec := { name := "storeHolds", fn := fun _ => fun
  | [d1, d2] => { results := [.lit (.bool false)], args := [d1, d2] }
  | _ => none }
def StoreHoldsWrongFalsely : Prop := storeHoldsRow.holds Try.pinned (OpenSpec.ofChange storeHoldsWrong)

/-- 'symbolonlaw18.StoreRoom': WHATEVER THE INPUT: true; the input reads as it did. -/
def storeRoomSpec : ChangeSpec := { name := "storeRoom", fn := fun _ => fun
  | [d1, d2, d3] => { results := [.lit (.bool true)], args := [d1, d2, d3] }
  | _ => none }
def storeRoomRow : OpenClaim := { program := "ytpmkpiffbdcflaa", sum := "5dd57ef79758ed3ff39b9e34d5c4734f938e913453e9fa2978618dfa0450400a", func := "symbolon/symbolonlaw18.StoreRoom", spec := "storeRoom", unfollowed := true, recurses := true, apart := false }
def StoreRoomSaid : Prop := storeRoomRow.holds Try.pinned (OpenSpec.ofChange storeRoomSpec)

/-- ITS FALSE NEIGHBOUR: 'it returns false'. Refute it at one input. -/
def storeRoomWrong : ChangeSpec := { name := "storeRoom", fn := fun _ => fun
  | [d1, d2, d3] => { results := [.lit (.bool false)], args := [d1, d2, d3] }
  | _ => none }
def StoreRoomWrongFalsely : Prop := storeRoomRow.holds Try.pinned (OpenSpec.ofChange storeRoomWrong)

/-- 'symbolonlaw18.StoreSynced': WHATEVER THE INPUT: true; the input reads as it did. -/
def storeSyncedSpec : ChangeSpec := { name := "storeSynced", fn := fun _ => fun
  | [d1, d2, d3, d4, d5, d6] => { results := [.lit (.bool true)], args := [d1, d2, d3, d4, d5, d6] }
  | _ => none }
def storeSyncedRow : OpenClaim := { program := "ytpmkpiffbdcflaa", sum := "5dd57ef79758ed3ff39b9e34d5c4734f938e913453e9fa2978618dfa0450400a", func := "symbolon/symbolonlaw18.StoreSynced", spec := "storeSynced", unfollowed := true, recurses := true, apart := false }
def StoreSyncedSaid : Prop := storeSyncedRow.holds Try.pinned (OpenSpec.ofChange storeSyncedSpec)

/-- ITS FALSE NEIGHBOUR: 'it returns false'. Refute it at one input. -/
def storeSyncedWrong : ChangeSpec := { name := "storeSynced", fn := fun _ => fun
  | [d1, d2, d3, d4, d5, d6] => { results := [.lit (.bool false)], args := [d1, d2, d3, d4, d5, d6] }
  | _ => none }
def StoreSyncedWrongFalsely : Prop := storeSyncedRow.holds Try.pinned (OpenSpec.ofChange storeSyncedWrong)

/-- 'symbolonlaw18.StorePlays': WHATEVER THE INPUT: true; the input reads as it did. -/
def storePlaysSpec : ChangeSpec := { name := "storePlays", fn := fun _ => fun
  | [d1, d2, d3] => { results := [.lit (.bool true)], args := [d1, d2, d3] }
  | _ => none }
def storePlaysRow : OpenClaim := { program := "ytpmkpiffbdcflaa", sum := "5dd57ef79758ed3ff39b9e34d5c4734f938e913453e9fa2978618dfa0450400a", func := "symbolon/symbolonlaw18.StorePlays", spec := "storePlays", unfollowed := true, recurses := true, apart := false }
def StorePlaysSaid : Prop := storePlaysRow.holds Try.pinned (OpenSpec.ofChange storePlaysSpec)

/-- ITS FALSE NEIGHBOUR: 'it returns false'. Refute it at one input. -/
def storePlaysWrong : ChangeSpec := { name := "storePlays", fn := fun _ => fun
  | [d1, d2, d3] => { results := [.lit (.bool false)], args := [d1, d2, d3] }
  | _ => none }
def StorePlaysWrongFalsely : Prop := storePlaysRow.holds Try.pinned (OpenSpec.ofChange storePlaysWrong)

/-- 'symbolonlaw18.StoreAgain': WHATEVER THE INPUT: true; the input reads as it did. -/
def storeAgainSpec : ChangeSpec := { name := "storeAgain", fn := fun _ => fun
  | [d1, d2, d3, d4] => { results := [.lit (.bool true)], args := [d1, d2, d3, d4] }
  | _ => none }
def storeAgainRow : OpenClaim := { program := "ytpmkpiffbdcflaa", sum := "5dd57ef79758ed3ff39b9e34d5c4734f938e913453e9fa2978618dfa0450400a", func := "symbolon/symbolonlaw18.StoreAgain", spec := "storeAgain", unfollowed := true, recurses := true, apart := false }
def StoreAgainSaid : Prop := storeAgainRow.holds Try.pinned (OpenSpec.ofChange storeAgainSpec)

/-- ITS FALSE NEIGHBOUR: 'it returns false'. Refute it at one input. -/
def storeAgainWrong : ChangeSpec := { name := "storeAgain", fn := fun _ => fun
  | [d1, d2, d3, d4] => { results := [.lit (.bool false)], args := [d1, d2, d3, d4] }
  | _ => none }
def StoreAgainWrongFalsely : Prop := storeAgainRow.holds Try.pinned (OpenSpec.ofChange storeAgainWrong)

/- THE SECOND FORM. 'bulk': how many values and letters a reading holds, each counted each time it is reached (what is shared counts as often as it is met; a slice's spare places count too). A statement '..UptoSaid' is the law's where the arguments, and the package variables that the reading takes, are together of bulk at most 1048576: NARROWER than '..Said'. Prove '..Said' where nothing that the law and all that it calls make is longer than what came in: it says more and counts as full. Else prove '..UptoSaid'. A law counts once. -/
mutual
def uptoBulk {H : Type} : DataW H → Nat
  | .lit (.string bytes) => bytes.length + 1
  | .lit _ => 1
  | .nil => 1
  | .ptr d => uptoBulk d + 1
  | .slice elems spare => uptoBulkAll elems + uptoBulkAll spare + 1
  | .agg parts => uptoBulkAll parts + 1
  | .iface _ d => uptoBulk d + 1
  | .map entries => uptoBulkEntries entries + 1
  | .held _ => 1
def uptoBulkAll {H : Type} : List (DataW H) → Nat
  | [] => 0
  | d :: r => uptoBulk d + uptoBulkAll r
def uptoBulkEntries {H : Type} : List (Lit × DataW H) → Nat
  | [] => 0
  | x :: r => uptoBulkEntry x + uptoBulkEntries r
def uptoBulkEntry {H : Type} : Lit × DataW H → Nat
  | (.string bytes, d) => bytes.length + uptoBulk d + 1
  | (_, d) => uptoBulk d + 1
 end
def uptoSmall : (H : Type) → List (DataW H) → Bool := fun _ ds => decide (uptoBulkAll ds ≤ 1048576)
def OpenSpec.upto (s : _root_.Go.ChangeSpec) : _root_.Go.OpenSpec := { _root_.Go.OpenSpec.ofChange s with cond := some uptoSmall }

/-- 'symbolonlaw18.StoreStays', WHERE WHAT IT READS IS OF BULK AT MOST 1048576: true; the input reads as it did. -/
def storeStaysUptoRow : OpenClaim := { program := "ytpmkpiffbdcflaa", sum := "5dd57ef79758ed3ff39b9e34d5c4734f938e913453e9fa2978618dfa0450400a", func := "symbolon/symbolonlaw18.StoreStays", spec := "storeStays", unfollowed := true, recurses := true, apart := false, narrowed := true }
def StoreStaysUptoSaid : Prop := storeStaysUptoRow.holds Try.pinned (OpenSpec.upto storeStaysSpec)

/-- 'symbolonlaw18.StoreGens', WHERE WHAT IT READS IS OF BULK AT MOST 1048576: true; the input reads as it did. -/
def storeGensUptoRow : OpenClaim := { program := "ytpmkpiffbdcflaa", sum := "5dd57ef79758ed3ff39b9e34d5c4734f938e913453e9fa2978618dfa0450400a", func := "symbolon/symbolonlaw18.StoreGens", spec := "storeGens", unfollowed := true, recurses := true, apart := false, narrowed := true }
def StoreGensUptoSaid : Prop := storeGensUptoRow.holds Try.pinned (OpenSpec.upto storeGensSpec)

/-- 'symbolonlaw18.StoreHolds', WHERE WHAT IT READS IS OF BULK AT MOST 1048576: true; the input reads as it did. -/
def storeHoldsUptoRow : OpenClaim := { program := "ytpmkpiffbdcflaa", sum := "5dd57ef79758ed3ff39b9e34d5c4734f938e913453e9fa2978618dfa0450400a", func := "symbolon/symbolonlaw18.StoreHolds", spec := "storeHolds", unfollowed := true, recurses := true, apart := false, narrowed := true }
def StoreHoldsUptoSaid : Prop := storeHoldsUptoRow.holds Try.pinned (OpenSpec.upto storeHoldsSpec)

/-- 'symbolonlaw18.StoreRoom', WHERE WHAT IT READS IS OF BULK AT MOST 1048576: true; the input reads as it did. -/
def storeRoomUptoRow : OpenClaim := { program := "ytpmkpiffbdcflaa", sum := "5dd57ef79758ed3ff39b9e34d5c4734f938e913453e9fa2978618dfa0450400a", func := "symbolon/symbolonlaw18.StoreRoom", spec := "storeRoom", unfollowed := true, recurses := true, apart := false, narrowed := true }
def StoreRoomUptoSaid : Prop := storeRoomUptoRow.holds Try.pinned (OpenSpec.upto storeRoomSpec)

/-- 'symbolonlaw18.StoreSynced', WHERE WHAT IT READS IS OF BULK AT MOST 1048576: true; the input reads as it did. -/
def storeSyncedUptoRow : OpenClaim := { program := "ytpmkpiffbdcflaa", sum := "5dd57ef79758ed3ff39b9e34d5c4734f938e913453e9fa2978618dfa0450400a", func := "symbolon/symbolonlaw18.StoreSynced", spec := "storeSynced", unfollowed := true, recurses := true, apart := false, narrowed := true }
def StoreSyncedUptoSaid : Prop := storeSyncedUptoRow.holds Try.pinned (OpenSpec.upto storeSyncedSpec)

/-- 'symbolonlaw18.StorePlays', WHERE WHAT IT READS IS OF BULK AT MOST 1048576: true; the input reads as it did. -/
def storePlaysUptoRow : OpenClaim := { program := "ytpmkpiffbdcflaa", sum := "5dd57ef79758ed3ff39b9e34d5c4734f938e913453e9fa2978618dfa0450400a", func := "symbolon/symbolonlaw18.StorePlays", spec := "storePlays", unfollowed := true, recurses := true, apart := false, narrowed := true }
def StorePlaysUptoSaid : Prop := storePlaysUptoRow.holds Try.pinned (OpenSpec.upto storePlaysSpec)

/-- 'symbolonlaw18.StoreAgain', WHERE WHAT IT READS IS OF BULK AT MOST 1048576: true; the input reads as it did. -/
def storeAgainUptoRow : OpenClaim := { program := "ytpmkpiffbdcflaa", sum := "5dd57ef79758ed3ff39b9e34d5c4734f938e913453e9fa2978618dfa0450400a", func := "symbolon/symbolonlaw18.StoreAgain", spec := "storeAgain", unfollowed := true, recurses := true, apart := false, narrowed := true }
def StoreAgainUptoSaid : Prop := storeAgainUptoRow.holds Try.pinned (OpenSpec.upto storeAgainSpec)

end Rows
end Go.Proofs.Ytpmkpiffbdcflaa
