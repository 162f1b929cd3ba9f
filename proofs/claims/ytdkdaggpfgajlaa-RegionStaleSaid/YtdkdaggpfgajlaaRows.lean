/-
  No cell of these rows narrows 'for every input' (looked for: loops, veiled, ifaces, maps, wideKeys, modest, calm, conditions, laid).
  DERIVED. THE GIVEN ROWS OF THIS SEAT. 6 by the template 'for every input the law returns true; each argument reads behind the call as it read before'; 0 by the template 'total and deterministic' (their statements: YtdkdaggpfgajlaaTotals.lean).
  GIVEN WITH THE SEED: the statements are not yours to turn. If you find one false, say at which input.
  Laid BY PROGRAM, IN A SANDBOX (cutbox-rows.mjs): the forced cells as the released guide's own fill.sh prints them over the translation 14f317069841172d… (all of the seat's roots in one cut). By AI agents, Wed Nov 11 2026. No macro, syntax, notation, axiom, sorry.
-/
import Derived.Test.YtdkdaggpfgajlaaChecked
import GoSem.Claim
import GoSem.ClaimJoined
import GoSem.ClaimMapViews
import Derived.JoinedTies
import Derived.KernelRfl
namespace Go.Proofs.Ytdkdaggpfgajlaa
/- THE CELL 'sum', in the pinned program and in every row, IS THE sha256 OF THE DUMP (.gsa) THAT YtdkdaggpfgajlaaProg.lean LOADS. Nothing in Lean hashes anything: it is a label: what it is worth is what the hold of that sum in a sandbox is worth. -/
noncomputable def Try.pinned : Pinned := { name := "ytdkdaggpfgajlaa", sum := "14f317069841172da028f088461aa1905c305fde463a7f193dd0c700ef1350e9", checked := Try.checked }
namespace Rows
def none {H : Type} : Left H := { results := [], args := [] }

/-- 'symbolonlaw17.RegionTells': WHATEVER THE INPUT: true; the input reads as it did. -/
def regionTellsSpec : ChangeSpec := { name := "regionTells", fn := fun _ => fun
  | [d1, d2, d3, d4, d5] => { results := [.lit (.bool true)], args := [d1, d2, d3, d4, d5] }
  | _ => none }
def regionTellsRow : OpenClaim := { program := "ytdkdaggpfgajlaa", sum := "14f317069841172da028f088461aa1905c305fde463a7f193dd0c700ef1350e9", func := "symbolon/symbolonlaw17.RegionTells", spec := "regionTells", unfollowed := true, recurses := true, apart := false }
def RegionTellsSaid : Prop := regionTellsRow.holds Try.pinned (OpenSpec.ofChange regionTellsSpec)

/-- ITS FALSE NEIGHBOUR: 'it returns false'. Refute it at one input. -/
def regionTellsWrong : ChangeSpec := { name := "regionTells", fn := fun _ => fun
  | [d1, d2, d3, d4, d5] => { results := [.lit (.bool false)], args := [d1, d2, d3, d4, d5] }
  | _ => none }
def RegionTellsWrongFalsely : Prop := regionTellsRow.holds Try.pinned (OpenSpec.ofChange regionTellsWrong)

/-- 'symbolonlaw17.RegionBack': WHATEVER THE INPUT: true; the input reads as it did. -/
def regionBackSpec : ChangeSpec := { name := "regionBack", fn := fun _ => fun
  | [d1, d2, d3, d4, d5] => { results := [.lit (.bool true)], args := [d1, d2, d3, d4, d5] }
  | _ => none }
def regionBackRow : OpenClaim := { program := "ytdkdaggpfgajlaa", sum := "14f317069841172da028f088461aa1905c305fde463a7f193dd0c700ef1350e9", func := "symbolon/symbolonlaw17.RegionBack", spec := "regionBack", unfollowed := true, recurses := true, apart := false }
def RegionBackSaid : Prop := regionBackRow.holds Try.pinned (OpenSpec.ofChange regionBackSpec)

/-- ITS FALSE NEIGHBOUR: 'it returns false'. Refute it at one input. -/
def regionBackWrong : ChangeSpec := { name := "regionBack", fn := fun _ => fun
  | [d1, d2, d3, d4, d5] => { results := [.lit (.bool false)], args := [d1, d2, d3, d4, d5] }
  | _ => none }
def RegionBackWrongFalsely : Prop := regionBackRow.holds Try.pinned (OpenSpec.ofChange regionBackWrong)

/-- 'symbolonlaw17.RegionOne': WHATEVER THE INPUT: true; the input reads as it did. -/
def regionOneSpec : ChangeSpec := { name := "regionOne", fn := fun _ => fun
  | [d1, d2, d3, d4, d5] => { results := [.lit (.bool true)], args := [d1, d2, d3, d4, d5] }
  | _ => none }
def regionOneRow : OpenClaim := { program := "ytdkdaggpfgajlaa", sum := "14f317069841172da028f088461aa1905c305fde463a7f193dd0c700ef1350e9", func := "symbolon/symbolonlaw17.RegionOne", spec := "regionOne", unfollowed := true, recurses := true, apart := false }
def RegionOneSaid : Prop := regionOneRow.holds Try.pinned (OpenSpec.ofChange regionOneSpec)

/-- ITS FALSE NEIGHBOUR: 'it returns false'. Refute it at one input. -/
def regionOneWrong : ChangeSpec := { name := "regionOne", fn := fun _ => fun
  | [d1, d2, d3, d4, d5] => { results := [.lit (.bool false)], args := [d1, d2, d3, d4, d5] }
  | _ => none }
def RegionOneWrongFalsely : Prop := regionOneRow.holds Try.pinned (OpenSpec.ofChange regionOneWrong)

/-- 'symbolonlaw17.RegionLacks': WHATEVER THE INPUT: true; the input reads as it did. -/
def regionLacksSpec : ChangeSpec := { name := "regionLacks", fn := fun _ => fun
  | [d1, d2, d3, d4, d5, d6] => { results := [.lit (.bool true)], args := [d1, d2, d3, d4, d5, d6] }
  | _ => none }
def regionLacksRow : OpenClaim := { program := "ytdkdaggpfgajlaa", sum := "14f317069841172da028f088461aa1905c305fde463a7f193dd0c700ef1350e9", func := "symbolon/symbolonlaw17.RegionLacks", spec := "regionLacks", unfollowed := true, recurses := true, apart := false }
def RegionLacksSaid : Prop := regionLacksRow.holds Try.pinned (OpenSpec.ofChange regionLacksSpec)

/-- ITS FALSE NEIGHBOUR: 'it returns false'. Refute it at one input. -/
def regionLacksWrong : ChangeSpec := { name := "regionLacks", fn := fun _ => fun
  | [d1, d2, d3, d4, d5, d6] => { results := [.lit (.bool false)], args := [d1, d2, d3, d4, d5, d6] }
  | _ => none }
def RegionLacksWrongFalsely : Prop := regionLacksRow.holds Try.pinned (OpenSpec.ofChange regionLacksWrong)

/-- 'symbolonlaw17.RegionLays': WHATEVER THE INPUT: true; the input reads as it did. -/
def regionLaysSpec : ChangeSpec := { name := "regionLays", fn := fun _ => fun
  | [d1, d2, d3, d4, d5, d6, d7, d8] => { results := [.lit (.bool true)], args := [d1, d2, d3, d4, d5, d6, d7, d8] }
  | _ => none }
def regionLaysRow : OpenClaim := { program := "ytdkdaggpfgajlaa", sum := "14f317069841172da028f088461aa1905c305fde463a7f193dd0c700ef1350e9", func := "symbolon/symbolonlaw17.RegionLays", spec := "regionLays", unfollowed := true, recurses := true, apart := false }
def RegionLaysSaid : Prop := regionLaysRow.holds Try.pinned (OpenSpec.ofChange regionLaysSpec)

/-- ITS FALSE NEIGHBOUR: 'it returns false'. Refute it at one input. -/
def regionLaysWrong : ChangeSpec := { name := "regionLays", fn := fun _ => fun
  | [d1, d2, d3, d4, d5, d6, d7, d8] => { results := [.lit (.bool false)], args := [d1, d2, d3, d4, d5, d6, d7, d8] }
  | _ => none }
def RegionLaysWrongFalsely : Prop := regionLaysRow.holds Try.pinned (OpenSpec.ofChange regionLaysWrong)

/-- 'symbolonlaw17.RegionStale': WHATEVER THE INPUT: true; the input reads as it did. -/
def regionStaleSpec : ChangeSpec := { name := "regionStale", fn := fun _ => fun
  | [d1, d2, d3, d4, d5, d6] => { results := [.lit (.bool true)], args := [d1, d2, d3, d4, d5, d6] }
  | _ => none }
def regionStaleRow : OpenClaim := { program := "ytdkdaggpfgajlaa", sum := "14f317069841172da028f088461aa1905c305fde463a7f193dd0c700ef1350e9", func := "symbolon/symbolonlaw17.RegionStale", spec := "regionStale", unfollowed := true, recurses := true, apart := false }
def RegionStaleSaid : Prop := regionStaleRow.holds Try.pinned (OpenSpec.ofChange regionStaleSpec)

/-- ITS FALSE NEIGHBOUR: 'it returns false'. Refute it at one input. -/
def regionStaleWrong : ChangeSpec := { name := "regionStale", fn := fun _ => fun
  | [d1, d2, d3, d4, d5, d6] => { results := [.lit (.bool false)], args := [d1, d2, d3, d4, d5, d6] }
  | _ => none }
def RegionStaleWrongFalsely : Prop := regionStaleRow.holds Try.pinned (OpenSpec.ofChange regionStaleWrong)

/- THE SECOND FORM. 'bulk': how many values and letters a reading holds, each counted each time it is reached (what is shared counts as often as it is met; a slice's spare places count too). A statement '..UptoSaid' is the law's where the arguments, and the package variables that the reading takes, are together of bulk at most 1048576: NARROWER than '..Said'. Prove '..Said' where nothing that the law and all that it calls make is longer than what came in: it says more and counts as full. Else prove '..UptoSaid'. A law counts once. -/
mutual
def uptoBulk {H : Type} : DataW H → Nat
  | .lit (.string bytes) => bytes.length + 1
  | .lit _ => 1
  | .nil => 1
  | .ptr d => uptoBulk d + 1
  | .slice elems spare => uptoBulkAll elems + uptoBulkAll spare + 1
  | .agg parts => uptoBulkAll parts + 1
  | .iface _ d => uptoBulk d + 1
  | .map entries => uptoBulkEntries entries + 1
  | .held _ => 1
def uptoBulkAll {H : Type} : List (DataW H) → Nat
  | [] => 0
  | d :: r => uptoBulk d + uptoBulkAll r
def uptoBulkEntries {H : Type} : List (Lit × DataW H) → Nat
  | [] => 0
  | x :: r => uptoBulkEntry x + uptoBulkEntries r
def uptoBulkEntry {H : Type} : Lit × DataW H → Nat
  | (.string bytes, d) => bytes.length + uptoBulk d + 1
  | (_, d) => uptoBulk d + 1
 end
def uptoSmall : (H : Type) → List (DataW H) → Bool := fun _ ds => decide (uptoBulkAll ds ≤ 1048576)
def OpenSpec.upto (s : _root_.Go.ChangeSpec) : _root_.Go.OpenSpec := { _root_.Go.OpenSpec.ofChange s with cond := some uptoSmall }

/-- 'symbolonlaw17.RegionTells', WHERE WHAT IT READS IS OF BULK AT MOST 1048576: true; the input reads as it did. -/
def regionTellsUptoRow : OpenClaim := { program := "ytdkdaggpfgajlaa", sum := "14f317069841172da028f088461aa1905c305fde463a7f193dd0c700ef1350e9", func := "symbolon/symbolonlaw17.RegionTells", spec := "regionTells", unfollowed := true, recurses := true, apart := false, narrowed := true }
def RegionTellsUptoSaid : Prop := regionTellsUptoRow.holds Try.pinned (OpenSpec.upto regionTellsSpec)

/-- 'symbolonlaw17.RegionBack', WHERE WHAT IT READS IS OF BULK AT MOST 1048576: true; the input reads as it did. -/
def regionBackUptoRow : OpenClaim := { program := "ytdkdaggpfgajlaa", sum := "14f317069841172da028f088461aa1905c305fde463a7f193dd0c700ef1350e9", func := "symbolon/symbolonlaw17.RegionBack", spec := "regionBack", unfollowed := true, recurses := true, apart := false, narrowed := true }
def RegionBackUptoSaid : Prop := regionBackUptoRow.holds Try.pinned (OpenSpec.upto regionBackSpec)

/-- 'symbolonlaw17.RegionOne', WHERE WHAT IT READS IS OF BULK AT MOST 1048576: true; the input reads as it did. -/
def regionOneUptoRow : OpenClaim := { program := "ytdkdaggpfgajlaa", sum := "14f317069841172da028f088461aa1905c305fde463a7f193dd0c700ef1350e9", func := "symbolon/symbolonlaw17.RegionOne", spec := "regionOne", unfollowed := true, recurses := true, apart := false, narrowed := true }
def RegionOneUptoSaid : Prop := regionOneUptoRow.holds Try.pinned (OpenSpec.upto regionOneSpec)

/-- 'symbolonlaw17.RegionLacks', WHERE WHAT IT READS IS OF BULK AT MOST 1048576: true; the input reads as it did. -/
def regionLacksUptoRow : OpenClaim := { program := "ytdkdaggpfgajlaa", sum := "14f317069841172da028f088461aa1905c305fde463a7f193dd0c700ef1350e9", func := "symbolon/symbolonlaw17.RegionLacks", spec := "regionLacks", unfollowed := true, recurses := true, apart := false, narrowed := true }
def RegionLacksUptoSaid : Prop := regionLacksUptoRow.holds Try.pinned (OpenSpec.upto regionLacksSpec)

/-- 'symbolonlaw17.RegionLays', WHERE WHAT IT READS IS OF BULK AT MOST 1048576: true; the input reads as it did. -/
def regionLaysUptoRow : OpenClaim := { program := "ytdkdaggpfgajlaa", sum := "14f317069841172da028f088461aa1905c305fde463a7f193dd0c700ef1350e9", func := "symbolon/symbolonlaw17.RegionLays", spec := "regionLays", unfollowed := true, recurses := true, apart := false, narrowed := true }
def RegionLaysUptoSaid : Prop := regionLaysUptoRow.holds Try.pinned (OpenSpec.upto regionLaysSpec)

/-- 'symbolonlaw17.RegionStale', WHERE WHAT IT READS IS OF BULK AT MOST 1048576: true; the input reads as it did. -/
def regionStaleUptoRow : OpenClaim := { program := "ytdkdaggpfgajlaa", sum := "14f317069841172da028f088461aa1905c305fde463a7f193dd0c700ef1350e9", func := "symbolon/symbolonlaw17.RegionStale", spec := "regionStale", unfollowed := true, recurses := true, apart := false, narrowed := true }
def RegionStaleUptoSaid : Prop := regionStaleUptoRow.holds Try.pinned (OpenSpec.upto regionStaleSpec)

end Rows
end Go.Proofs.Ytdkdaggpfgajlaa
