/- What an argument of a law says: numbers, bytes, rows, structs, as kinds of cells. -/
import Derived.Test.YtpmkpiffbdcflaaCelE
import Derived.ChangeOld
import Derived.WideShapes
import Derived.Deep.Slices
import Derived.Deep.Fields
import Derived.Lib.AtoiErrMem
import Derived.DataShut
set_option linter.unusedVariables false
namespace Go.Proofs.Ytpmkpiffbdcflaa
open Go Go.RowKit Go.Deep
section
variable {H : Type} {enc : TypeId × Value → H} {P : Program} {w : World} {spare : Nat → Bool} {held : Bool}
/-- Cells that are read as of a type are of a kind, and good. -/
def Rd {α : Type} (enc : TypeId × Value → H) (P : Program) (w : World) (spare : Nat → Bool) (held : Bool) (t : TypeId) (kd : Kd α) (G : α → Prop) : Prop :=
  ∀ n cs x, DataW.trod enc P w 0 spare held n t cs = some x → ∃ y, kd.ok (fun b => b < w.heap.size) w cs y ∧ G y
theorem rd_int {t : TypeId} {k : IntKind} (ht : P.underlying t = some (.int k)) : Rd enc P w spare held t (kInt k) (fun y => (Lit.int k y).wf = true) := fun n cs x h => by
  obtain ⟨m, rfl, _, hw⟩ := DataW.trod_int ht h
  exact ⟨m, rfl, hw⟩
theorem u8_wf {m : Int} (hw : (Lit.int .u8 m).wf = true) : 0 ≤ m ∧ m < 256 := by
  have h := (Lit.wf_int_iff .u8 m).1 hw
  simp [IntKind.min, IntKind.max, IntKind.bits, IntKind.signed] at h
  omega
theorem rd_byteR {t : TypeId} (ht : P.underlying t = some (.int .u8)) : Rd enc P w spare held t kByte (fun y => 0 ≤ y ∧ y < 256) := fun n cs x h => by
  obtain ⟨m, rfl, _, hw⟩ := DataW.trod_int ht h
  exact ⟨m, ⟨rfl, u8_wf hw⟩, u8_wf hw⟩
theorem rd_bool {t : TypeId} (ht : P.underlying t = some .bool) : Rd enc P w spare held t kBool (fun _ => True) := fun n cs x h => by
  obtain ⟨m, rfl, _⟩ := DataW.trod_bool ht h
  exact ⟨m, rfl, trivial⟩
theorem rd_slice {α : Type} [Inhabited α] {t e : TypeId} {kd : Kd α} {G : α → Prop} (ht : P.underlying t = some (.slice e)) (hc : P.cellsOf e = kd.sz) (hz : 0 < kd.sz) (he : Rd enc P w spare held e kd G) : Rd enc P w spare held t (kSlice kd) (fun ys => ys.length ≤ maxLen ∧ ∀ y ∈ ys, G y) := fun n cs x h => by
  rcases open_slice ht h with ⟨rfl, _⟩ | ⟨a, len, cap, m, n', D, Pl, rfl, _, hl, hm, hmm, _, hx⟩
  · exact ⟨[], ⟨none, 0, rfl, Nat.le_refl _, Nat.zero_le _, fun j hj => absurd hj (Nat.not_lt_zero j)⟩, Nat.zero_le _, fun _ h => by cases h⟩
  · have hlm : len ≤ m := by rw [hmm]; split <;> omega
    obtain ⟨f, hf⟩ := choose_lt (n := len) (p := fun j (y : α) => G y ∧ ∃ cs', a.block < w.heap.size ∧ kd.ok (fun b => b < w.heap.size) w cs' y ∧ ∀ i, i < kd.sz → w.cell? (a.add (j * kd.sz + i)) = cs'[i]?) (fun j hj => by
      obtain ⟨cs', h1, h2⟩ := hx j (by omega)
      obtain ⟨y, hy, hg⟩ := he _ _ _ h2
      obtain ⟨_, hlen, hcell⟩ := World.cells?_some h1
      rw [hc] at hlen hcell
      refine ⟨y, hg, cs', ?_, hy, fun i hi => ?_⟩
      · have := hcell 0 hz
        rw [List.getElem?_eq_getElem (by omega)] at this
        have h3 := Lib.lt_of_cell this
        rw [addr_block, addr_block] at h3
        exact h3
      · rw [← hcell i hi, add_add])
    have hlen : ((List.range len).map f).length = len := by simp
    refine ⟨(List.range len).map f, ⟨some a, cap, by rw [hlen], by rw [hlen]; exact hl, hm, fun j hj => ?_⟩, by rw [hlen]; omega, fun y hy => ?_⟩
    · rw [hlen] at hj
      obtain ⟨_, cs', h1, h2, h3⟩ := hf j hj
      exact ⟨a, cs', rfl, h1, by simpa using h2, h3⟩
    · obtain ⟨j, hj, rfl⟩ := List.mem_map.1 hy
      exact (hf j (List.mem_range.1 hj)).1
end
end Go.Proofs.Ytpmkpiffbdcflaa
