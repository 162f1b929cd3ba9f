/-
  No cell of these rows narrows 'for every input' (looked for: loops, veiled, ifaces, maps, wideKeys, modest, calm, conditions, laid).
  DERIVED. THE GIVEN ROWS OF THIS SEAT. 5 by the template 'for every input the law returns true; each argument reads behind the call as it read before'; 0 by the template 'total and deterministic' (their statements: YtflkagoglhckoaaTotals.lean).
  GIVEN WITH THE SEED: the statements are not yours to turn. If you find one false, say at which input.
  Laid BY PROGRAM, IN A SANDBOX (cutbox-rows.mjs): the forced cells as the released guide's own fill.sh prints them over the translation 7cbad0bbb10b094c… (all of the seat's roots in one cut). By AI agents, Wed Nov 11 2026. No macro, syntax, notation, axiom, sorry.
-/
import Derived.Test.YtflkagoglhckoaaChecked
import GoSem.Claim
import GoSem.ClaimJoined
import GoSem.ClaimMapViews
import Derived.JoinedTies
import Derived.KernelRfl
namespace Go.Proofs.Ytflkagoglhckoaa
/- THE CELL 'sum', in the pinned program and in every row, IS THE sha256 OF THE DUMP (.gsa) THAT YtflkagoglhckoaaProg.lean LOADS. Nothing in Lean hashes anything: it is a label: what it is worth is what the hold of that sum in a sandbox is worth. -/
noncomputable def Try.pinned : Pinned := { name := "ytflkagoglhckoaa", sum := "7cbad0bbb10b094cc41ba28fdc89100c48871c92ec2d676b9ec0623e8605abd1", checked := Try.checked }
namespace Rows
def none {H : Type} : Left H := { results := [], args := [] }

/-- 'symbolonlaw22.LanPlays': WHATEVER THE INPUT: true; the input reads as it did. -/
def lanPlaysSpec : ChangeSpec := { name := "lanPlays", fn := fun _ => fun
  | [d] => { results := [.lit (.bool true)], args := [d] }
  | _ => none }
def lanPlaysRow : OpenClaim := { program := "ytflkagoglhckoaa", sum := "7cbad0bbb10b094cc41ba28fdc89100c48871c92ec2d676b9ec0623e8605abd1", func := "symbolon/symbolonlaw22.LanPlays", spec := "lanPlays", apart := false }
def LanPlaysSaid : Prop := lanPlaysRow.holds Try.pinned (OpenSpec.ofChange lanPlaysSpec)

/-- ITS FALSE NEIGHBOUR: 'it returns false'. Refute it at one input. -/
def lanPlaysWrong : ChangeSpec := { name := "lanPlays", fn := fun _ => fun
  | [d] => { results := [.lit (.bool false)], args := [d] }
  | _ => none }
def LanPlaysWrongFalsely : Prop := lanPlaysRow.holds Try.pinned (OpenSpec.ofChange lanPlaysWrong)

/-- 'symbolonlaw22.LanOrder': WHATEVER THE INPUT: true; the input reads as it did. -/
def lanOrderSpec : ChangeSpec := { name := "lanOrder", fn := fun _ => fun
  | [d1, d2] => { results := [.lit (.bool true)], args := [d1, d2] }
  | _ => none }
def lanOrderRow : OpenClaim := { program := "ytflkagoglhckoaa", sum := "7cbad0bbb10b094cc41ba28fdc89100c48871c92ec2d676b9ec0623e8605abd1", func := "symbolon/symbolonlaw22.LanOrder", spec := "lanOrder", apart := false }
def LanOrderSaid : Prop := lanOrderRow.holds Try.pinned (OpenSpec.ofChange lanOrderSpec)

/-- ITS FALSE NEIGHBOUR: 'it returns false'. Refute it at one input. -/
def lanOrderWrong : ChangeSpec := { name := "lanOrder", fn := fun _ => fun
  | [d1, d2] => { results := [.lit (.bool false)], args := [d1, d2] }
  | _ => none }
def LanOrderWrongFalsely : Prop := lanOrderRow.holds Try.pinned (OpenSpec.ofChange lanOrderWrong)

/-- 'symbolonlaw22.LanTakes': WHATEVER THE INPUT: true; the input reads as it did. -/
def lanTakesSpec : ChangeSpec := { name := "lanTakes", fn := fun _ => fun
  | [d1, d2, d3] => { results := [.lit (.bool true)], args := [d1, d2, d3] }
  | _ => none }
def lanTakesRow : OpenClaim := { program := "ytflkagoglhckoaa", sum := "7cbad0bbb10b094cc41ba28fdc89100c48871c92ec2d676b9ec0623e8605abd1", func := "symbolon/symbolonlaw22.LanTakes", spec := "lanTakes", apart := false }
def LanTakesSaid : Prop := lanTakesRow.holds Try.pinned (OpenSpec.ofChange lanTakesSpec)

/-- ITS FALSE NEIGHBOUR: 'it returns false'. Refute it at one input. -/
def lanTakesWrong : ChangeSpec := { name := "lanTakes", fn := fun _ => fun
  | [d1, d2, d3] => { results := [.lit (.bool false)], args := [d1, d2, d3] }
  | _ => none }
def LanTakesWrongFalsely : Prop := lanTakesRow.holds Try.pinned (OpenSpec.ofChange lanTakesWrong)

/-- 'symbolonlaw22.LanFull': WHATEVER THE INPUT: true; the input reads as it did. -/
def lanFullSpec : ChangeSpec := { name := "lanFull", fn := fun _ => fun
  | [d1, d2] => { results := [.lit (.bool true)], args := [d1, d2] }
  | _ => none }
def lanFullRow : OpenClaim := { program := "ytflkagoglhckoaa", sum := "7cbad0bbb10b094cc41ba28fdc89100c48871c92ec2d676b9ec0623e8605abd1", func := "symbolon/symbolonlaw22.LanFull", spec := "lanFull", apart := false }
def LanFullSaid : Prop := lanFullRow.holds Try.pinned (OpenSpec.ofChange lanFullSpec)

/-- ITS FALSE NEIGHBOUR: 'it returns false'. Refute it at one input. -/
def lanFullWrong : ChangeSpec := { name := "lanFull", fn := fun _ => fun
  | [d1, d2] => { results := [.lit (.bool false)], args := [d1, d2] }
  | _ => none }
def LanFullWrongFalsely : Prop := lanFullRow.holds Try.pinned (OpenSpec.ofChange lanFullWrong)

/-- 'symbolonlaw22.LanOwn': WHATEVER THE INPUT: true; the input reads as it did. -/
def lanOwnSpec : ChangeSpec := { name := "lanOwn", fn := fun _ => fun
  | [d1, d2] => { results := [.lit (.bool true)], args := [d1, d2] }
  | _ => none }
def lanOwnRow : OpenClaim := { program := "ytflkagoglhckoaa", sum := "7cbad0bbb10b094cc41ba28fdc89100c48871c92ec2d676b9ec0623e8605abd1", func := "symbolon/symbolonlaw22.LanOwn", spec := "lanOwn", apart := false }
def LanOwnSaid : Prop := lanOwnRow.holds Try.pinned (OpenSpec.ofChange lanOwnSpec)

/-- ITS FALSE NEIGHBOUR: 'it returns false'. Refute it at one input. -/
def lanOwnWrong : ChangeSpec := { name := "lanOwn", fn := fun _ => fun
  | [d1, d2] => { results := [.lit (.bool false)], args := [d1, d2] }
  | _ => none }
def LanOwnWrongFalsely : Prop := lanOwnRow.holds Try.pinned (OpenSpec.ofChange lanOwnWrong)

/- THE SECOND FORM. 'bulk': how many values and letters a reading holds, each counted each time it is reached (what is shared counts as often as it is met; a slice's spare places count too). A statement '..UptoSaid' is the law's where the arguments, and the package variables that the reading takes, are together of bulk at most 1048576: NARROWER than '..Said'. Prove '..Said' where nothing that the law and all that it calls make is longer than what came in: it says more and counts as full. Else prove '..UptoSaid'. A law counts once. -/
mutual
def uptoBulk {H : Type} : DataW H → Nat
  | .lit (.string bytes) => bytes.length + 1
  | .lit _ => 1
  | .nil => 1
  | .ptr d => uptoBulk d + 1
  | .slice elems spare => uptoBulkAll elems + uptoBulkAll spare + 1
  | .agg parts => uptoBulkAll parts + 1
  | .iface _ d => uptoBulk d + 1
  | .map entries => uptoBulkEntries entries + 1
  | .held _ => 1
def uptoBulkAll {H : Type} : List (DataW H) → Nat
  | [] => 0
  | d :: r => uptoBulk d + uptoBulkAll r
def uptoBulkEntries {H : Type} : List (Lit × DataW H) → Nat
  | [] => 0
  | x :: r => uptoBulkEntry x + uptoBulkEntries r
def uptoBulkEntry {H : Type} : Lit × DataW H → Nat
  | (.string bytes, d) => bytes.length + uptoBulk d + 1
  | (_, d) => uptoBulk d + 1
 end
def uptoSmall : (H : Type) → List (DataW H) → Bool := fun _ ds => decide (uptoBulkAll ds ≤ 1048576)
def OpenSpec.upto (s : _root_.Go.ChangeSpec) : _root_.Go.OpenSpec := { _root_.Go.OpenSpec.ofChange s with cond := some uptoSmall }

/-- 'symbolonlaw22.LanPlays', WHERE WHAT IT READS IS OF BULK AT MOST 1048576: true; the input reads as it did. -/
def lanPlaysUptoRow : OpenClaim := { program := "ytflkagoglhckoaa", sum := "7cbad0bbb10b094cc41ba28fdc89100c48871c92ec2d676b9ec0623e8605abd1", func := "symbolon/symbolonlaw22.LanPlays", spec := "lanPlays", apart := false, narrowed := true }
def LanPlaysUptoSaid : Prop := lanPlaysUptoRow.holds Try.pinned (OpenSpec.upto lanPlaysSpec)

/-- 'symbolonlaw22.LanOrder', WHERE WHAT IT READS IS OF BULK AT MOST 1048576: true; the input reads as it did. -/
def lanOrderUptoRow : OpenClaim := { program := "ytflkagoglhckoaa", sum := "7cbad0bbb10b094cc41ba28fdc89100c48871c92ec2d676b9ec0623e8605abd1", func := "symbolon/symbolonlaw22.LanOrder", spec := "lanOrder", apart := false, narrowed := true }
def LanOrderUptoSaid : Prop := lanOrderUptoRow.holds Try.pinned (OpenSpec.upto lanOrderSpec)

/-- 'symbolonlaw22.LanTakes', WHERE WHAT IT READS IS OF BULK AT MOST 1048576: true; the input reads as it did. -/
def lanTakesUptoRow : OpenClaim := { program := "ytflkagoglhckoaa", sum := "7cbad0bbb10b094cc41ba28fdc89100c48871c92ec2d676b9ec0623e8605abd1", func := "symbolon/symbolonlaw22.LanTakes", spec := "lanTakes", apart := false, narrowed := true }
def LanTakesUptoSaid : Prop := lanTakesUptoRow.holds Try.pinned (OpenSpec.upto lanTakesSpec)

/-- 'symbolonlaw22.LanFull', WHERE WHAT IT READS IS OF BULK AT MOST 1048576: true; the input reads as it did. -/
def lanFullUptoRow : OpenClaim := { program := "ytflkagoglhckoaa", sum := "7cbad0bbb10b094cc41ba28fdc89100c48871c92ec2d676b9ec0623e8605abd1", func := "symbolon/symbolonlaw22.LanFull", spec := "lanFull", apart := false, narrowed := true }
def LanFullUptoSaid : Prop := lanFullUptoRow.holds Try.pinned (OpenSpec.upto lanFullSpec)

/-- 'symbolonlaw22.LanOwn', WHERE WHAT IT READS IS OF BULK AT MOST 1048576: true; the input reads as it did. -/
def lanOwnUptoRow : OpenClaim := { program := "ytflkagoglhckoaa", sum := "7cbad0bbb10b094cc41ba28fdc89100c48871c92ec2d676b9ec0623e8605abd1", func := "symbolon/symbolonlaw22.LanOwn", spec := "lanOwn", apart := false, narrowed := true }
def LanOwnUptoSaid : Prop := lanOwnUptoRow.holds Try.pinned (OpenSpec.upto lanOwnSpec)

end Rows
end Go.Proofs.Ytflkagoglhckoaa
