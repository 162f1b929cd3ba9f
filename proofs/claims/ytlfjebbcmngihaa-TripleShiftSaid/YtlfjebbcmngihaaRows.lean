/-
  No cell of these rows narrows 'for every input' (looked for: loops, veiled, ifaces, maps, wideKeys, modest, calm, conditions, laid).
  DERIVED. THE GIVEN ROWS OF THIS SEAT. 10 by the template 'for every input the law returns true; each argument reads behind the call as it read before'; 0 by the template 'total and deterministic' (their statements: YtlfjebbcmngihaaTotals.lean).
  GIVEN WITH THE SEED: the statements are not yours to turn. If you find one false, say at which input.
  Laid BY PROGRAM, IN A SANDBOX (cutbox-rows.mjs): the forced cells as the released guide's own fill.sh prints them over the translation 436ad7b02a19ba22… (all of the seat's roots in one cut). By AI agents, Wed Nov 11 2026. No macro, syntax, notation, axiom, sorry.
-/
import Derived.Test.YtlfjebbcmngihaaChecked
import GoSem.Claim
import GoSem.ClaimJoined
import GoSem.ClaimMapViews
import Derived.JoinedTies
import Derived.KernelRfl
namespace Go.Proofs.Ytlfjebbcmngihaa
/- THE CELL 'sum', in the pinned program and in every row, IS THE sha256 OF THE DUMP (.gsa) THAT YtlfjebbcmngihaaProg.lean LOADS. Nothing in Lean hashes anything: it is a label: what it is worth is what the hold of that sum in a sandbox is worth. -/
noncomputable def Try.pinned : Pinned := { name := "ytlfjebbcmngihaa", sum := "436ad7b02a19ba227c3d8d6d29c1bef6f0b35d4e128ef7196890334b7c3304a8", checked := Try.checked }
namespace Rows
def none {H : Type} : Left H := { results := [], args := [] }

/-- 'symbolonlaw11.TripleTells': WHATEVER THE INPUT: true; the input reads as it did. -/
def tripleTellsSpec : ChangeSpec := { name := "tripleTells", fn := fun _ => fun
  | [d1, d2, d3, d4] => { results := [.lit (.bool true)], args := [d1, d2, d3, d4] }
  | _ => none }
def tripleTellsRow : OpenClaim := { program := "ytlfjebbcmngihaa", sum := "436ad7b02a19ba227c3d8d6d29c1bef6f0b35d4e128ef7196890334b7c3304a8", func := "symbolon/symbolonlaw11.TripleTells", spec := "tripleTells", apart := false }
def TripleTellsSaid : Prop := tripleTellsRow.holds Try.pinned (OpenSpec.ofChange tripleTellsSpec)

/-- ITS FALSE NEIGHBOUR: 'it returns false'. Refute it at one input. -/
def tripleTellsWrong : ChangeSpec := { name := "tripleTells", fn := fun _ => fun
  | [d1, d2, d3, d4] => { results := [.lit (.bool false)], args := [d1, d2, d3, d4] }
  | _ => none }
def TripleTellsWrongFalsely : Prop := tripleTellsRow.holds Try.pinned (OpenSpec.ofChange tripleTellsWrong)

/-- 'symbolonlaw11.TripleProduct': WHATEVER THE INPUT: true; the input reads as it did. -/
def tripleProductSpec : ChangeSpec := { name := "tripleProduct", fn := fun _ => fun
  | [d1, d2, d3] => { results := [.lit (.bool true)], args := [d1, d2, d3] }
  | _ => none }
def tripleProductRow : OpenClaim := { program := "ytlfjebbcmngihaa", sum := "436ad7b02a19ba227c3d8d6d29c1bef6f0b35d4e128ef7196890334b7c3304a8", func := "symbolon/symbolonlaw11.TripleProduct", spec := "tripleProduct", apart := false }
def TripleProductSaid : Prop := tripleProductRow.holds Try.pinned (OpenSpec.ofChange tripleProductSpec)

/-- ITS FALSE NEIGHBOUR: 'it returns false'. Refute it at one input. -/
def tripleProductWrong : ChangeSpec := { name := "tripleProduct", fn := fun _ => fun
  | [d1, d2, d3] => { results := [.lit (.bool false)], args := [d1, d2, d3] }
  | _ => none }
def TripleProductWrongFalsely : Prop := tripleProductRow.holds Try.pinned (OpenSpec.ofChange tripleProductWrong)

/-- 'symbolonlaw11.TripleRow': WHATEVER THE INPUT: true; the input reads as it did. -/
def tripleRowSpec : ChangeSpec := { name := "tripleRow", fn := fun _ => fun
  | [d1, d2, d3, d4, d5] => { results := [.lit (.bool true)], args := [d1, d2, d3, d4, d5] }
  | _ => none }
def tripleRowRow : OpenClaim := { program := "ytlfjebbcmngihaa", sum := "436ad7b02a19ba227c3d8d6d29c1bef6f0b35d4e128ef7196890334b7c3304a8", func := "symbolon/symbolonlaw11.TripleRow", spec := "tripleRow", apart := false }
def TripleRowSaid : Prop := tripleRowRow.holds Try.pinned (OpenSpec.ofChange tripleRowSpec)

/-- ITS FALSE NEIGHBOUR: 'it returns false'. Refute it at one input. -/
def tripleRowWrong : ChangeSpec := { name := "tripleRow", fn := fun _ => fun
  | [d1, d2, d3, d4, d5] => { results := [.lit (.bool false)], args := [d1, d2, d3, d4, d5] }
  | _ => none }
def TripleRowWrongFalsely : Prop := tripleRowRow.holds Try.pinned (OpenSpec.ofChange tripleRowWrong)

/-- 'symbolonlaw11.TripleMasks': WHATEVER THE INPUT: true; the input reads as it did. -/
def tripleMasksSpec : ChangeSpec := { name := "tripleMasks", fn := fun _ => fun
  | [d1, d2, d3] => { results := [.lit (.bool true)], args := [d1, d2, d3] }
  | _ => none }
def tripleMasksRow : OpenClaim := { program := "ytlfjebbcmngihaa", sum := "436ad7b02a19ba227c3d8d6d29c1bef6f0b35d4e128ef7196890334b7c3304a8", func := "symbolon/symbolonlaw11.TripleMasks", spec := "tripleMasks", apart := false }
def TripleMasksSaid : Prop := tripleMasksRow.holds Try.pinned (OpenSpec.ofChange tripleMasksSpec)

/-- ITS FALSE NEIGHBOUR: 'it returns false'. Refute it at one input. -/
def tripleMasksWrong : ChangeSpec := { name := "tripleMasks", fn := fun _ => fun
  | [d1, d2, d3] => { results := [.lit (.bool false)], args := [d1, d2, d3] }
  | _ => none }
def TripleMasksWrongFalsely : Prop := tripleMasksRow.holds Try.pinned (OpenSpec.ofChange tripleMasksWrong)

/-- 'symbolonlaw11.TripleShift': WHATEVER THE INPUT: true; the input reads as it did. -/
def tripleShiftSpec : ChangeSpec := { name := "tripleShift", fn := fun _ => fun
  | [d1, d2, d3, d4] => { results := [.lit (.bool true)], args := [d1, d2, d3, d4] }
  | _ => none }
def tripleShiftRow : OpenClaim := { program := "ytlfjebbcmngihaa", sum := "436ad7b02a19ba227c3d8d6d29c1bef6f0b35d4e128ef7196890334b7c3304a8", func := "symbolon/symbolonlaw11.TripleShift", spec := "tripleShift", apart := false }
def TripleShiftSaid : Prop := tripleShiftRow.holds Try.pinned (OpenSpec.ofChange tripleShiftSpec)

/-- ITS FALSE NEIGHBOUR: 'it returns false'. Refute it at one input. -/
def tripleShiftWrong : ChangeSpec := { name := "tripleShift", fn := fun _ => fun
  | [d1, d2, d3, d4] => { results := [.lit (.bool false)], args := [d1, d2, d3, d4] }
  | _ => none }
def TripleShiftWrongFalsely : Prop := tripleShiftRow.holds Try.pinned (OpenSpec.ofChange tripleShiftWrong)

/-- 'symbolonlaw09.StreamTells': WHATEVER THE INPUT: true; the input reads as it did. -/
def streamTellsSpec : ChangeSpec := { name := "streamTells", fn := fun _ => fun
  | [d1, d2, d3, d4] => { results := [.lit (.bool true)], args := [d1, d2, d3, d4] }
  | _ => none }
def streamTellsRow : OpenClaim := { program := "ytlfjebbcmngihaa", sum := "436ad7b02a19ba227c3d8d6d29c1bef6f0b35d4e128ef7196890334b7c3304a8", func := "symbolon/symbolonlaw09.StreamTells", spec := "streamTells", unfollowed := true, recurses := true, apart := false }
def StreamTellsSaid : Prop := streamTellsRow.holds Try.pinned (OpenSpec.ofChange streamTellsSpec)

/-- ITS FALSE NEIGHBOUR: 'it returns false'. Refute it at one input. -/
def streamTellsWrong : ChangeSpec := { name := "streamTells", fn := fun _ => fun
  | [d1, d2, d3, d4] => { results := [.lit (.bool false)], args := [d1, d2, d3, d4] }
  | _ => none }
def StreamTellsWrongFalsely : Prop := streamTellsRow.holds Try.pinned (OpenSpec.ofChange streamTellsWrong)

/-- 'symbolonlaw09.StreamBack': WHATEVER THE INPUT: true; the input reads as it did. -/
def streamBackSpec : ChangeSpec := { name := "streamBack", fn := fun _ => fun
  | [d1, d2, d3] => { results := [.lit (.bool true)], args := [d1, d2, d3] }
  | _ => none }
def streamBackRow : OpenClaim := { program := "ytlfjebbcmngihaa", sum := "436ad7b02a19ba227c3d8d6d29c1bef6f0b35d4e128ef7196890334b7c3304a8", func := "symbolon/symbolonlaw09.StreamBack", spec := "streamBack", unfollowed := true, recurses := true, apart := false }
def StreamBackSaid : Prop := streamBackRow.holds Try.pinned (OpenSpec.ofChange streamBackSpec)

/-- ITS FALSE NEIGHBOUR: 'it returns false'. Refute it at one input. -/
def streamBackWrong : ChangeSpec := { name := "streamBack", fn := fun _ => fun
  | [d1, d2, d3] => { results := [.lit (.bool false)], args := [d1, d2, d3] }
  | _ => none }
def StreamBackWrongFalsely : Prop := streamBackRow.holds Try.pinned (OpenSpec.ofChange streamBackWrong)

/-- 'symbolonlaw09.StreamApart': WHATEVER THE INPUT: true; the input reads as it did. -/
def streamApartSpec : ChangeSpec := { name := "streamApart", fn := fun _ => fun
  | [d1, d2, d3, d4] => { results := [.lit (.bool true)], args := [d1, d2, d3, d4] }
  | _ => none }
def streamApartRow : OpenClaim := { program := "ytlfjebbcmngihaa", sum := "436ad7b02a19ba227c3d8d6d29c1bef6f0b35d4e128ef7196890334b7c3304a8", func := "symbolon/symbolonlaw09.StreamApart", spec := "streamApart", unfollowed := true, recurses := true, apart := false }
def StreamApartSaid : Prop := streamApartRow.holds Try.pinned (OpenSpec.ofChange streamApartSpec)

/-- ITS FALSE NEIGHBOUR: 'it returns false'. Refute it at one input. -/
def streamApartWrong : ChangeSpec := { name := "streamApart", fn := fun _ => fun
  | [d1, d2, d3, d4] => { results := [.lit (.bool false)], args := [d1, d2, d3, d4] }
  | _ => none }
def StreamApartWrongFalsely : Prop := streamApartRow.holds Try.pinned (OpenSpec.ofChange streamApartWrong)

/-- 'symbolonlaw09.StreamRow': WHATEVER THE INPUT: true; the input reads as it did. -/
def streamRowSpec : ChangeSpec := { name := "streamRow", fn := fun _ => fun
  | [d1, d2, d3, d4] => { results := [.lit (.bool true)], args := [d1, d2, d3, d4] }
  | _ => none }
def streamRowRow : OpenClaim := { program := "ytlfjebbcmngihaa", sum := "436ad7b02a19ba227c3d8d6d29c1bef6f0b35d4e128ef7196890334b7c3304a8", func := "symbolon/symbolonlaw09.StreamRow", spec := "streamRow", unfollowed := true, recurses := true, apart := false }
def StreamRowSaid : Prop := streamRowRow.holds Try.pinned (OpenSpec.ofChange streamRowSpec)

/-- ITS FALSE NEIGHBOUR: 'it returns false'. Refute it at one input. -/
def streamRowWrong : ChangeSpec := { name := "streamRow", fn := fun _ => fun
  | [d1, d2, d3, d4] => { results := [.lit (.bool false)], args := [d1, d2, d3, d4] }
  | _ => none }
def StreamRowWrongFalsely : Prop := streamRowRow.holds Try.pinned (OpenSpec.ofChange streamRowWrong)

/-- 'symbolonlaw09.StreamShift': WHATEVER THE INPUT: true; the input reads as it did. -/
def streamShiftSpec : ChangeSpec := { name := "streamShift", fn := fun _ => fun
  | [d1, d2, d3, d4] => { results := [.lit (.bool true)], args := [d1, d2, d3, d4] }
  | _ => none }
def streamShiftRow : OpenClaim := { program := "ytlfjebbcmngihaa", sum := "436ad7b02a19ba227c3d8d6d29c1bef6f0b35d4e128ef7196890334b7c3304a8", func := "symbolon/symbolonlaw09.StreamShift", spec := "streamShift", unfollowed := true, recurses := true, apart := false }
def StreamShiftSaid : Prop := streamShiftRow.holds Try.pinned (OpenSpec.ofChange streamShiftSpec)

/-- ITS FALSE NEIGHBOUR: 'it returns false'. Refute it at one input. -/
def streamShiftWrong : ChangeSpec := { name := "streamShift", fn := fun _ => fun
  | [d1, d2, d3, d4] => { results := [.lit (.bool false)], args := [d1, d2, d3, d4] }
  | _ => none }
def StreamShiftWrongFalsely : Prop := streamShiftRow.holds Try.pinned (OpenSpec.ofChange streamShiftWrong)

/- THE SECOND FORM. 'bulk': how many values and letters a reading holds, each counted each time it is reached (what is shared counts as often as it is met; a slice's spare places count too). A statement '..UptoSaid' is the law's where the arguments, and the package variables that the reading takes, are together of bulk at most 1048576: NARROWER than '..Said'. Prove '..Said' where nothing that the law and all that it calls make is longer than what came in: it says more and counts as full. Else prove '..UptoSaid'. A law counts once. -/
mutual
def uptoBulk {H : Type} : DataW H → Nat
  | .lit (.string bytes) => bytes.length + 1
  | .lit _ => 1
  | .nil => 1
  | .ptr d => uptoBulk d + 1
  | .slice elems spare => uptoBulkAll elems + uptoBulkAll spare + 1
  | .agg parts => uptoBulkAll parts + 1
  | .iface _ d => uptoBulk d + 1
  | .map entries => uptoBulkEntries entries + 1
  | .held _ => 1
def uptoBulkAll {H : Type} : List (DataW H) → Nat
  | [] => 0
  | d :: r => uptoBulk d + uptoBulkAll r
def uptoBulkEntries {H : Type} : List (Lit × DataW H) → Nat
  | [] => 0
  | x :: r => uptoBulkEntry x + uptoBulkEntries r
def uptoBulkEntry {H : Type} : Lit × DataW H → Nat
  | (.string bytes, d) => bytes.length + uptoBulk d + 1
  | (_, d) => uptoBulk d + 1
 end
def uptoSmall : (H : Type) → List (DataW H) → Bool := fun _ ds => decide (uptoBulkAll ds ≤ 1048576)
def OpenSpec.upto (s : _root_.Go.ChangeSpec) : _root_.Go.OpenSpec := { _root_.Go.OpenSpec.ofChange s with cond := some uptoSmall }

/-- 'symbolonlaw11.TripleTells', WHERE WHAT IT READS IS OF BULK AT MOST 1048576: true; the input reads as it did. -/
def tripleTellsUptoRow : OpenClaim := { program := "ytlfjebbcmngihaa", sum := "436ad7b02a19ba227c3d8d6d29c1bef6f0b35d4e128ef7196890334b7c3304a8", func := "symbolon/symbolonlaw11.TripleTells", spec := "tripleTells", apart := false, narrowed := true }
def TripleTellsUptoSaid : Prop := tripleTellsUptoRow.holds Try.pinned (OpenSpec.upto tripleTellsSpec)

/-- 'symbolonlaw11.TripleProduct', WHERE WHAT IT READS IS OF BULK AT MOST 1048576: true; the input reads as it did. -/
def tripleProductUptoRow : OpenClaim := { program := "ytlfjebbcmngihaa", sum := "436ad7b02a19ba227c3d8d6d29c1bef6f0b35d4e128ef7196890334b7c3304a8", func := "symbolon/symbolonlaw11.TripleProduct", spec := "tripleProduct", apart := false, narrowed := true }
def TripleProductUptoSaid : Prop := tripleProductUptoRow.holds Try.pinned (OpenSpec.upto tripleProductSpec)

/-- 'symbolonlaw11.TripleRow', WHERE WHAT IT READS IS OF BULK AT MOST 1048576: true; the input reads as it did. -/
def tripleRowUptoRow : OpenClaim := { program := "ytlfjebbcmngihaa", sum := "436ad7b02a19ba227c3d8d6d29c1bef6f0b35d4e128ef7196890334b7c3304a8", func := "symbolon/symbolonlaw11.TripleRow", spec := "tripleRow", apart := false, narrowed := true }
def TripleRowUptoSaid : Prop := tripleRowUptoRow.holds Try.pinned (OpenSpec.upto tripleRowSpec)

/-- 'symbolonlaw11.TripleMasks', WHERE WHAT IT READS IS OF BULK AT MOST 1048576: true; the input reads as it did. -/
def tripleMasksUptoRow : OpenClaim := { program := "ytlfjebbcmngihaa", sum := "436ad7b02a19ba227c3d8d6d29c1bef6f0b35d4e128ef7196890334b7c3304a8", func := "symbolon/symbolonlaw11.TripleMasks", spec := "tripleMasks", apart := false, narrowed := true }
def TripleMasksUptoSaid : Prop := tripleMasksUptoRow.holds Try.pinned (OpenSpec.upto tripleMasksSpec)

/-- 'symbolonlaw11.TripleShift', WHERE WHAT IT READS IS OF BULK AT MOST 1048576: true; the input reads as it did. -/
def tripleShiftUptoRow : OpenClaim := { program := "ytlfjebbcmngihaa", sum := "436ad7b02a19ba227c3d8d6d29c1bef6f0b35d4e128ef7196890334b7c3304a8", func := "symbolon/symbolonlaw11.TripleShift", spec := "tripleShift", apart := false, narrowed := true }
def TripleShiftUptoSaid : Prop := tripleShiftUptoRow.holds Try.pinned (OpenSpec.upto tripleShiftSpec)

/-- 'symbolonlaw09.StreamTells', WHERE WHAT IT READS IS OF BULK AT MOST 1048576: true; the input reads as it did. -/
def streamTellsUptoRow : OpenClaim := { program := "ytlfjebbcmngihaa", sum := "436ad7b02a19ba227c3d8d6d29c1bef6f0b35d4e128ef7196890334b7c3304a8", func := "symbolon/symbolonlaw09.StreamTells", spec := "streamTells", unfollowed := true, recurses := true, apart := false, narrowed := true }
def StreamTellsUptoSaid : Prop := streamTellsUptoRow.holds Try.pinned (OpenSpec.upto streamTellsSpec)

/-- 'symbolonlaw09.StreamBack', WHERE WHAT IT READS IS OF BULK AT MOST 1048576: true; the input reads as it did. -/
def streamBackUptoRow : OpenClaim := { program := "ytlfjebbcmngihaa", sum := "436ad7b02a19ba227c3d8d6d29c1bef6f0b35d4e128ef7196890334b7c3304a8", func := "symbolon/symbolonlaw09.StreamBack", spec := "streamBack", unfollowed := true, recurses := true, apart := false, narrowed := true }
def StreamBackUptoSaid : Prop := streamBackUptoRow.holds Try.pinned (OpenSpec.upto streamBackSpec)

/-- 'symbolonlaw09.StreamApart', WHERE WHAT IT READS IS OF BULK AT MOST 1048576: true; the input reads as it did. -/
def streamApartUptoRow : OpenClaim := { program := "ytlfjebbcmngihaa", sum := "436ad7b02a19ba227c3d8d6d29c1bef6f0b35d4e128ef7196890334b7c3304a8", func := "symbolon/symbolonlaw09.StreamApart", spec := "streamApart", unfollowed := true, recurses := true, apart := false, narrowed := true }
def StreamApartUptoSaid : Prop := streamApartUptoRow.holds Try.pinned (OpenSpec.upto streamApartSpec)

/-- 'symbolonlaw09.StreamRow', WHERE WHAT IT READS IS OF BULK AT MOST 1048576: true; the input reads as it did. -/
def streamRowUptoRow : OpenClaim := { program := "ytlfjebbcmngihaa", sum := "436ad7b02a19ba227c3d8d6d29c1bef6f0b35d4e128ef7196890334b7c3304a8", func := "symbolon/symbolonlaw09.StreamRow", spec := "streamRow", unfollowed := true, recurses := true, apart := false, narrowed := true }
def StreamRowUptoSaid : Prop := streamRowUptoRow.holds Try.pinned (OpenSpec.upto streamRowSpec)

/-- 'symbolonlaw09.StreamShift', WHERE WHAT IT READS IS OF BULK AT MOST 1048576: true; the input reads as it did. -/
def streamShiftUptoRow : OpenClaim := { program := "ytlfjebbcmngihaa", sum := "436ad7b02a19ba227c3d8d6d29c1bef6f0b35d4e128ef7196890334b7c3304a8", func := "symbolon/symbolonlaw09.StreamShift", spec := "streamShift", unfollowed := true, recurses := true, apart := false, narrowed := true }
def StreamShiftUptoSaid : Prop := streamShiftUptoRow.holds Try.pinned (OpenSpec.upto streamShiftSpec)

end Rows
end Go.Proofs.Ytlfjebbcmngihaa
