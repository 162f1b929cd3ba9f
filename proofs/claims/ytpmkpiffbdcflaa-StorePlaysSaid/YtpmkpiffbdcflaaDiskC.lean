/- The disk, plain: what a crash keeps. -/
import Derived.Test.YtpmkpiffbdcflaaDisk
set_option linter.unusedVariables false
set_option linter.unusedSimpArgs false
namespace Go.Proofs.Ytpmkpiffbdcflaa
open Go Go.RowKit
theorem wf64 {x : Int} (h : (Lit.int .i64 x).wf = true) : -9223372036854775808 ≤ x ∧ x < 9223372036854775808 := by
  have e1 : IntKind.i64.min = -9223372036854775808 := by decide
  have e2 : IntKind.i64.max = 9223372036854775807 := by decide
  simp only [Lit.wf] at h
  simp [e1, e2] at h
  omega
theorem getD_mem {α : Type} {l : List α} {k : Nat} (h : k < l.length) (z : α) : l.getD k z ∈ l := by
  rw [List.getD_eq_getElem?_getD, List.getElem?_eq_getElem h]; exact List.getElem_mem h
/-! ### What a crash keeps -/
theorem arr_of {b : List Int} (h : b.length = 64) (hb : Bytes b) : (Arr.of 64 (b.take 64)).l = b := by
  have e : b.take 64 = b := List.take_of_length_le (by omega)
  unfold Arr.of
  rw [e, dif_pos ⟨h, hb⟩]
end Go.Proofs.Ytpmkpiffbdcflaa
