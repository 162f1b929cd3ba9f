/- The two shares of a row are as long as it and join to it, whichever comes first: for every seed and all rows that Go's memory can hold. -/
import Derived.Test.YtifehkjcccjccaaShareBase
import Derived.Test.YtifehkjcccjccaaPShx17
set_option linter.unusedSimpArgs false
namespace Go.Proofs.Ytifehkjcccjccaa.Pure
open Go Go.RowKit Go.Proofs.Ytifehkjcccjccaa.PSh Go.Proofs.YtifehkjcccjccaaW.PrintWords Go.Proofs.YtifehkjcccjccaaW.PrintLast Go.Proofs.YtifehkjcccjccaaW.PrintMore Go.Proofs.Ytifehkjcccjccaa.U64 Go.Proofs.Ytifehkjcccjccaa.ShareBase
theorem ShareBack : symbolonlaw10_ShareBack.Pure := by
  intro a0 l1 w0 _ h1 w1
  obtain ⟨s, rfl⟩ := un_of w0
  obtain ⟨x, ex⟩ := uns_of w1
  have fx := fits_of h1 ex
  subst ex
  apply Ev.rounds
  unfold symbolonlaw10_ShareBack.f
  refine Ev.bind head_ev ?_
  by_cases c : (((uns x).length : Int) > 4096)
  · simp only [if_pos c]
    exact Ev.now _
  · simp only [if_neg c]
    rw [uns_length] at c
    have hx : x.length ≤ 4096 := by omega
    refine Ev.bind (split_ev s hx) ?_
    have hm := ms_length s x.length
    have c1 : ((uns (ms s x.length)).length : Int) = ((uns x).length : Int) := by rw [uns_length, uns_length, hm]
    have hz : (zw (· - ·) x (ms s x.length)).length = x.length := by rw [zw_length, hm, Nat.min_self]
    have c2 : ((uns (zw (· - ·) x (ms s x.length))).length : Int) = ((uns x).length : Int) := by rw [uns_length, uns_length, hz]
    simp only [if_true, if_pos c1, if_pos c2]
    have e1 : zw (· + ·) (ms s x.length) (zw (· - ·) x (ms s x.length)) = x := by
      refine List.ext_getElem (by rw [zw_length, hz, hm, Nat.min_self]) (fun i h1 h2 => ?_)
      rw [zw_get, zw_get, BitVec.add_comm]
      exact sub_add _ _
    have e2 : zw (· + ·) (zw (· - ·) x (ms s x.length)) (ms s x.length) = x := by rw [zw_comm _ BitVec.add_comm, e1]
    refine Ev.bind (join_ev (fits_le hm hx) (fits_le hz hx)) (Ev.bind (same_eq e1 (fits_le (by rw [e1]) hx)) ?_)
    simp only [if_true]
    exact Ev.bind (join_ev (fits_le hz hx) (fits_le hm hx)) (Ev.bind (same_eq e2 (fits_le (by rw [e2]) hx)) (Ev.now _))
end Go.Proofs.Ytifehkjcccjccaa.Pure
