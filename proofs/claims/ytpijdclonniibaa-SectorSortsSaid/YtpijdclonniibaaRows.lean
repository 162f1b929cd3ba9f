/-
  No cell of these rows narrows 'for every input' (looked for: loops, veiled, ifaces, maps, wideKeys, modest, calm, conditions, laid).
  DERIVED. THE GIVEN ROWS OF THIS SEAT. 6 by the template 'for every input the law returns true; each argument reads behind the call as it read before'; 0 by the template 'total and deterministic' (their statements: YtpijdclonniibaaTotals.lean).
  GIVEN WITH THE SEED: the statements are not yours to turn. If you find one false, say at which input.
  Laid BY PROGRAM, IN A SANDBOX (cutbox-rows.mjs): the forced cells as the released guide's own fill.sh prints them over the translation 4bd70991b5988398… (all of the seat's roots in one cut). By AI agents, Wed Nov 11 2026. No macro, syntax, notation, axiom, sorry.
-/
import Derived.Test.YtpijdclonniibaaChecked
import GoSem.Claim
import GoSem.ClaimJoined
import GoSem.ClaimMapViews
import Derived.JoinedTies
import Derived.KernelRfl
namespace Go.Proofs.Ytpijdclonniibaa
/- THE CELL 'sum', in the pinned program and in every row, IS THE sha256 OF THE DUMP (.gsa) THAT YtpijdclonniibaaProg.lean LOADS. Nothing in Lean hashes anything: it is a label: what it is worth is what the hold of that sum in a sandbox is worth. -/
noncomputable def Try.pinned : Pinned := { name := "ytpijdclonniibaa", sum := "4bd70991b5988398effa24c094ce0dcdbc7c8e8f585e1f99cb0d785893c1243b", checked := Try.checked }
namespace Rows
def none {H : Type} : Left H := { results := [], args := [] }

/-- 'symbolonlaw16.SectorTells': WHATEVER THE INPUT: true; the input reads as it did. -/
def sectorTellsSpec : ChangeSpec := { name := "sectorTells", fn := fun _ => fun
  | [d1, d2] => { results := [.lit (.bool true)], args := [d1, d2] }
  | _ => none }
def sectorTellsRow : OpenClaim := { program := "ytpijdclonniibaa", sum := "4bd70991b5988398effa24c094ce0dcdbc7c8e8f585e1f99cb0d785893c1243b", func := "symbolon/symbolonlaw16.SectorTells", spec := "sectorTells", unfollowed := true, recurses := true, apart := false }
def SectorTellsSaid : Prop := sectorTellsRow.holds Try.pinned (OpenSpec.ofChange sectorTellsSpec)

/-- ITS FALSE NEIGHBOUR: 'it returns false'. Refute it at one input. -/
def sectorTellsWrong : ChangeSpec := { name := "sectorTells", fn := fun _ => fun
  | [d1, d2] => { results := [.lit (.bool false)], args := [d1, d2] }
  | _ => none }
def SectorTellsWrongFalsely : Prop := sectorTellsRow.holds Try.pinned (OpenSpec.ofChange sectorTellsWrong)

/-- 'symbolonlaw16.SectorBack': WHATEVER THE INPUT: true; the input reads as it did. -/
def sectorBackSpec : ChangeSpec := { name := "sectorBack", fn := fun _ => fun
  | [d1, d2] => { results := [.lit (.bool true)], args := [d1, d2] }
  | _ => none }
def sectorBackRow : OpenClaim := { program := "ytpijdclonniibaa", sum := "4bd70991b5988398effa24c094ce0dcdbc7c8e8f585e1f99cb0d785893c1243b", func := "symbolon/symbolonlaw16.SectorBack", spec := "sectorBack", unfollowed := true, recurses := true, apart := false }
def SectorBackSaid : Prop := sectorBackRow.holds Try.pinned (OpenSpec.ofChange sectorBackSpec)

/-- ITS FALSE NEIGHBOUR: 'it returns false'. Refute it at one input. -/
def sectorBackWrong : ChangeSpec := { name := "sectorBack", fn := fun _ => fun
  | [d1, d2] => { results := [.lit (.bool false)], args := [d1, d2] }
  | _ => none }
def SectorBackWrongFalsely : Prop := sectorBackRow.holds Try.pinned (OpenSpec.ofChange sectorBackWrong)

/-- 'symbolonlaw16.SectorApart': WHATEVER THE INPUT: true; the input reads as it did. -/
def sectorApartSpec : ChangeSpec := { name := "sectorApart", fn := fun _ => fun
  | [d1, d2] => { results := [.lit (.bool true)], args := [d1, d2] }
  | _ => none }
def sectorApartRow : OpenClaim := { program := "ytpijdclonniibaa", sum := "4bd70991b5988398effa24c094ce0dcdbc7c8e8f585e1f99cb0d785893c1243b", func := "symbolon/symbolonlaw16.SectorApart", spec := "sectorApart", unfollowed := true, recurses := true, apart := false }
def SectorApartSaid : Prop := sectorApartRow.holds Try.pinned (OpenSpec.ofChange sectorApartSpec)

/-- ITS FALSE NEIGHBOUR: 'it returns false'. Refute it at one input. -/
def sectorApartWrong : ChangeSpec := { name := "sectorApart", fn := fun _ => fun
  | [d1, d2] => { results := [.lit (.bool false)], args := [d1, d2] }
  | _ => none }
def SectorApartWrongFalsely : Prop := sectorApartRow.holds Try.pinned (OpenSpec.ofChange sectorApartWrong)

/-- 'symbolonlaw16.SectorNoughts': WHATEVER THE INPUT: true; the input reads as it did. -/
def sectorNoughtsSpec : ChangeSpec := { name := "sectorNoughts", fn := fun _ => fun
  | [d1, d2, d3] => { results := [.lit (.bool true)], args := [d1, d2, d3] }
  | _ => none }
def sectorNoughtsRow : OpenClaim := { program := "ytpijdclonniibaa", sum := "4bd70991b5988398effa24c094ce0dcdbc7c8e8f585e1f99cb0d785893c1243b", func := "symbolon/symbolonlaw16.SectorNoughts", spec := "sectorNoughts", unfollowed := true, recurses := true, apart := false }
def SectorNoughtsSaid : Prop := sectorNoughtsRow.holds Try.pinned (OpenSpec.ofChange sectorNoughtsSpec)

/-- ITS FALSE NEIGHBOUR: 'it returns false'. Refute it at one input. -/
def sectorNoughtsWrong : ChangeSpec := { name := "sectorNoughts", fn := fun _ => fun
  | [d1, d2, d3] => { results := [.lit (.bool false)], args := [d1, d2, d3] }
  | _ => none }
def SectorNoughtsWrongFalsely : Prop := sectorNoughtsRow.holds Try.pinned (OpenSpec.ofChange sectorNoughtsWrong)

/-- 'symbolonlaw16.SectorFields': WHATEVER THE INPUT: true; the input reads as it did. -/
def sectorFieldsSpec : ChangeSpec := { name := "sectorFields", fn := fun _ => fun
  | [d1, d2, d3, d4, d5] => { results := [.lit (.bool true)], args := [d1, d2, d3, d4, d5] }
  | _ => none }
def sectorFieldsRow : OpenClaim := { program := "ytpijdclonniibaa", sum := "4bd70991b5988398effa24c094ce0dcdbc7c8e8f585e1f99cb0d785893c1243b", func := "symbolon/symbolonlaw16.SectorFields", spec := "sectorFields", unfollowed := true, recurses := true, apart := false }
def SectorFieldsSaid : Prop := sectorFieldsRow.holds Try.pinned (OpenSpec.ofChange sectorFieldsSpec)

/-- ITS FALSE NEIGHBOUR: 'it returns false'. Refute it at one input. -/
def sectorFieldsWrong : ChangeSpec := { name := "sectorFields", fn := fun _ => fun
  | [d1, d2, d3, d4, d5] => { results := [.lit (.bool false)], args := [d1, d2, d3, d4, d5] }
  | _ => none }
def SectorFieldsWrongFalsely : Prop := sectorFieldsRow.holds Try.pinned (OpenSpec.ofChange sectorFieldsWrong)

/-- 'symbolonlaw16.SectorSorts': WHATEVER THE INPUT: true; the input reads as it did. -/
def sectorSortsSpec : ChangeSpec := { name := "sectorSorts", fn := fun _ => fun
  | [d1, d2] => { results := [.lit (.bool true)], args := [d1, d2] }
  | _ => none }
def sectorSortsRow : OpenClaim := { program := "ytpijdclonniibaa", sum := "4bd70991b5988398effa24c094ce0dcdbc7c8e8f585e1f99cb0d785893c1243b", func := "symbolon/symbolonlaw16.SectorSorts", spec := "sectorSorts", unfollowed := true, recurses := true, apart := false }
def SectorSortsSaid : Prop := sectorSortsRow.holds Try.pinned (OpenSpec.ofChange sectorSortsSpec)

/-- ITS FALSE NEIGHBOUR: 'it returns false'. Refute it at one input. -/
def sectorSortsWrong : ChangeSpec := { name := "sectorSorts", fn := fun _ => fun
  | [d1, d2] => { results := [.lit (.bool false)], args := [d1, d2] }
  | _ => none }
def SectorSortsWrongFalsely : Prop := sectorSortsRow.holds Try.pinned (OpenSpec.ofChange sectorSortsWrong)

/- THE SECOND FORM. 'bulk': how many values and letters a reading holds, each counted each time it is reached (what is shared counts as often as it is met; a slice's spare places count too). A statement '..UptoSaid' is the law's where the arguments, and the package variables that the reading takes, are together of bulk at most 1048576: NARROWER than '..Said'. Prove '..Said' where nothing that the law and all that it calls make is longer than what came in: it says more and counts as full. Else prove '..UptoSaid'. A law counts once. -/
mutual
def uptoBulk {H : Type} : DataW H → Nat
  | .lit (.string bytes) => bytes.length + 1
  | .lit _ => 1
  | .nil => 1
  | .ptr d => uptoBulk d + 1
  | .slice elems spare => uptoBulkAll elems + uptoBulkAll spare + 1
  | .agg parts => uptoBulkAll parts + 1
  | .iface _ d => uptoBulk d + 1
  | .map entries => uptoBulkEntries entries + 1
  | .held _ => 1
def uptoBulkAll {H : Type} : List (DataW H) → Nat
  | [] => 0
  | d :: r => uptoBulk d + uptoBulkAll r
def uptoBulkEntries {H : Type} : List (Lit × DataW H) → Nat
  | [] => 0
  | x :: r => uptoBulkEntry x + uptoBulkEntries r
def uptoBulkEntry {H : Type} : Lit × DataW H → Nat
  | (.string bytes, d) => bytes.length + uptoBulk d + 1
  | (_, d) => uptoBulk d + 1
 end
def uptoSmall : (H : Type) → List (DataW H) → Bool := fun _ ds => decide (uptoBulkAll ds ≤ 1048576)
def OpenSpec.upto (s : _root_.Go.ChangeSpec) : _root_.Go.OpenSpec := { _root_.Go.OpenSpec.ofChange s with cond := some uptoSmall }

/-- 'symbolonlaw16.SectorTells', WHERE WHAT IT READS IS OF BULK AT MOST 1048576: true; the input reads as it did. -/
def sectorTellsUptoRow : OpenClaim := { program := "ytpijdclonniibaa", sum := "4bd70991b5988398effa24c094ce0dcdbc7c8e8f585e1f99cb0d785893c1243b", func := "symbolon/symbolonlaw16.SectorTells", spec := "sectorTells", unfollowed := true, recurses := true, apart := false, narrowed := true }
def SectorTellsUptoSaid : Prop := sectorTellsUptoRow.holds Try.pinned (OpenSpec.upto sectorTellsSpec)

/-- 'symbolonlaw16.SectorBack', WHERE WHAT IT READS IS OF BULK AT MOST 1048576: true; the input reads as it did. -/
def sectorBackUptoRow : OpenClaim := { program := "ytpijdclonniibaa", sum := "4bd70991b5988398effa24c094ce0dcdbc7c8e8f585e1f99cb0d785893c1243b", func := "symbolon/symbolonlaw16.SectorBack", spec := "sectorBack", unfollowed := true, recurses := true, apart := false, narrowed := true }
def SectorBackUptoSaid : Prop := sectorBackUptoRow.holds Try.pinned (OpenSpec.upto sectorBackSpec)

/-- 'symbolonlaw16.SectorApart', WHERE WHAT IT READS IS OF BULK AT MOST 1048576: true; the input reads as it did. -/
def sectorApartUptoRow : OpenClaim := { program := "ytpijdclonniibaa", sum := "4bd70991b5988398effa24c094ce0dcdbc7c8e8f585e1f99cb0d785893c1243b", func := "symbolon/symbolonlaw16.SectorApart", spec := "sectorApart", unfollowed := true, recurses := true, apart := false, narrowed := true }
def SectorApartUptoSaid : Prop := sectorApartUptoRow.holds Try.pinned (OpenSpec.upto sectorApartSpec)

/-- 'symbolonlaw16.SectorNoughts', WHERE WHAT IT READS IS OF BULK AT MOST 1048576: true; the input reads as it did. -/
def sectorNoughtsUptoRow : OpenClaim := { program := "ytpijdclonniibaa", sum := "4bd70991b5988398effa24c094ce0dcdbc7c8e8f585e1f99cb0d785893c1243b", func := "symbolon/symbolonlaw16.SectorNoughts", spec := "sectorNoughts", unfollowed := true, recurses := true, apart := false, narrowed := true }
def SectorNoughtsUptoSaid : Prop := sectorNoughtsUptoRow.holds Try.pinned (OpenSpec.upto sectorNoughtsSpec)

/-- 'symbolonlaw16.SectorFields', WHERE WHAT IT READS IS OF BULK AT MOST 1048576: true; the input reads as it did. -/
def sectorFieldsUptoRow : OpenClaim := { program := "ytpijdclonniibaa", sum := "4bd70991b5988398effa24c094ce0dcdbc7c8e8f585e1f99cb0d785893c1243b", func := "symbolon/symbolonlaw16.SectorFields", spec := "sectorFields", unfollowed := true, recurses := true, apart := false, narrowed := true }
def SectorFieldsUptoSaid : Prop := sectorFieldsUptoRow.holds Try.pinned (OpenSpec.upto sectorFieldsSpec)

/-- 'symbolonlaw16.SectorSorts', WHERE WHAT IT READS IS OF BULK AT MOST 1048576: true; the input reads as it did. -/
def sectorSortsUptoRow : OpenClaim := { program := "ytpijdclonniibaa", sum := "4bd70991b5988398effa24c094ce0dcdbc7c8e8f585e1f99cb0d785893c1243b", func := "symbolon/symbolonlaw16.SectorSorts", spec := "sectorSorts", unfollowed := true, recurses := true, apart := false, narrowed := true }
def SectorSortsUptoSaid : Prop := sectorSortsUptoRow.holds Try.pinned (OpenSpec.upto sectorSortsSpec)

end Rows
end Go.Proofs.Ytpijdclonniibaa
