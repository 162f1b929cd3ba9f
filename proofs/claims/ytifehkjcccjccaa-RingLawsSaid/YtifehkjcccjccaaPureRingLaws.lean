/- Sums and products of rows go in any order, of two and of three, and products go over sums: for all rows that Go's memory can hold. -/
import Derived.Test.YtifehkjcccjccaaRingAlg
import Derived.Test.YtifehkjcccjccaaPRgx20
set_option linter.unusedSimpArgs false
namespace Go.Proofs.Ytifehkjcccjccaa.Pure
open Go Go.RowKit Go.Proofs.Ytifehkjcccjccaa.PRg Go.Proofs.YtifehkjcccjccaaW.PrintWords Go.Proofs.YtifehkjcccjccaaW.PrintLast Go.Proofs.YtifehkjcccjccaaW.PrintMore Go.Proofs.Ytifehkjcccjccaa.U64 Go.Proofs.Ytifehkjcccjccaa.RingBase
theorem RingLaws : symbolonlaw01_RingLaws.Pure := by
  intro l0 l1 l2 _ h0 w0 _ h1 w1 _ h2 w2
  obtain ⟨a, ea⟩ := uns_of w0
  obtain ⟨b, eb⟩ := uns_of w1
  obtain ⟨c, ec⟩ := uns_of w2
  have fa := fits_of h0 ea
  have fb := fits_of h1 eb
  have fc := fits_of h2 ec
  subst ea eb ec
  apply Ev.rounds
  unfold symbolonlaw01_RingLaws.f
  obtain ⟨g, hg⟩ := great_at (uns a) (uns b)
  rw [hg]
  refine Ev.bind head_ev ?_
  simp only [Option.bind_some]
  cases g with
  | true =>
    simp only [if_true]
    refine ev_succ ?_
    simp only [symbolonlaw01_RingLaws.j0, if_true]
    exact Ev.now _
  | false =>
    simp only [Bool.false_eq_true, if_false]
    refine ev_succ ?_
    simp only [symbolonlaw01_RingLaws.j0]
    by_cases h : ((uns c).length : Int) > 3000
    · simp only [if_true, if_pos h, decide_eq_true_eq]
      exact Ev.now _
    simp only [decide_eq_true_eq, if_neg h, if_true]
    refine Ev.bind (add_ev fa fb) (Ev.bind (add_ev fb fa) (Ev.bind (same_eq (zw_comm _ BitVec.add_comm a b) (fits_zw fa)) ?_))
    simp only [if_true]
    refine Ev.bind (mul_ev fa fb) (Ev.bind (mul_ev fb fa) (Ev.bind (same_eq (zw_comm _ BitVec.mul_comm a b) (fits_zw fa)) ?_))
    simp only [if_true]
    refine Ev.bind (add_ev fa fb) (Ev.bind (add_ev (fits_zw fa) fc) (Ev.bind (add_ev fb fc) (Ev.bind (add_ev fa (fits_zw fb)) (Ev.bind (same_eq (zw_assoc _ BitVec.add_assoc a b c) (fits_zw (fits_zw fa))) ?_))))
    simp only [if_true]
    refine Ev.bind (mul_ev fa fb) (Ev.bind (mul_ev (fits_zw fa) fc) (Ev.bind (mul_ev fb fc) (Ev.bind (mul_ev fa (fits_zw fb)) (Ev.bind (same_eq (zw_assoc _ BitVec.mul_assoc a b c) (fits_zw (fits_zw fa))) ?_))))
    simp only [if_true]
    refine Ev.bind (add_ev fb fc) (Ev.bind (mul_ev fa (fits_zw fb)) (Ev.bind (mul_ev fa fb) (Ev.bind (mul_ev fa fc) (Ev.bind (add_ev (fits_zw fa) (fits_zw fa)) (Ev.bind (same_eq (zw_over a b c) (fits_zw fa)) ?_)))))
    exact Ev.now _
end Go.Proofs.Ytifehkjcccjccaa.Pure
