/- What is seen of a masked row may be any row: for every seed and all rows that Go's memory can hold. -/
import Derived.Test.YtifehkjcccjccaaShareBase
import Derived.Test.YtifehkjcccjccaaPShx19
set_option linter.unusedSimpArgs false
namespace Go.Proofs.Ytifehkjcccjccaa.Pure
open Go Go.RowKit Go.Proofs.Ytifehkjcccjccaa.PSh Go.Proofs.YtifehkjcccjccaaW.PrintWords Go.Proofs.YtifehkjcccjccaaW.PrintLast Go.Proofs.YtifehkjcccjccaaW.PrintMore Go.Proofs.Ytifehkjcccjccaa.U64 Go.Proofs.Ytifehkjcccjccaa.ShareBase
theorem ShareAny : symbolonlaw10_ShareAny.Pure := by
  intro a0 l1 w0 _ h1 w1
  obtain ⟨s, rfl⟩ := un_of w0
  obtain ⟨x, ex⟩ := uns_of w1
  have fx := fits_of h1 ex
  subst ex
  apply Ev.rounds
  unfold symbolonlaw10_ShareAny.f
  refine Ev.bind head_ev ?_
  by_cases c : (((uns x).length : Int) > 4096)
  · simp only [if_pos c]
    exact Ev.now _
  · simp only [if_neg c]
    rw [uns_length] at c
    rw [uns_length]
    have hx : x.length ≤ 4096 := by omega
    have hm := ms_length s x.length
    have r := ref_row_ev s 0#64 (x.length : Int)
    rw [rowI_ms s _ hx, ← zero_un] at r
    refine Ev.bind r (Ev.bind (ref_add_ev (fits_le hm hx)) ?_)
    have lz : (zw (· + ·) (ms s x.length) x).length = x.length := by rw [zw_length, hm, Nat.min_self]
    have sp := split_ev s (x := zw (· + ·) (ms s x.length) x) (by omega)
    rw [lz] at sp
    refine Ev.bind sp ?_
    simp only [if_true]
    have ll : (zw (· - ·) (zw (· + ·) (ms s x.length) x) (ms s x.length)).length = x.length := by rw [zw_length, lz, hm, Nat.min_self]
    have e : zw (· - ·) (zw (· + ·) (ms s x.length) x) (ms s x.length) = x := by
      refine List.ext_getElem ll (fun i h1 h2 => ?_)
      rw [zw_get, zw_get, BitVec.add_comm]
      exact add_sub _ _
    exact Ev.bind (same_eq e (fits_le ll hx)) (Ev.now _)
end Go.Proofs.Ytifehkjcccjccaa.Pure
