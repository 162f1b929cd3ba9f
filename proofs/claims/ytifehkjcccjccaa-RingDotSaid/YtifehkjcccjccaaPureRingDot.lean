/- Dot goes over sums, on either side, over a number, and in either order: for all rows that Go's memory can hold, and every number. -/
import Derived.Test.YtifehkjcccjccaaRingAlg
import Derived.Test.YtifehkjcccjccaaPRgx22
set_option linter.unusedSimpArgs false
namespace Go.Proofs.Ytifehkjcccjccaa.Pure
open Go Go.RowKit Go.Proofs.Ytifehkjcccjccaa.PRg Go.Proofs.YtifehkjcccjccaaW.PrintWords Go.Proofs.YtifehkjcccjccaaW.PrintLast Go.Proofs.YtifehkjcccjccaaW.PrintMore Go.Proofs.Ytifehkjcccjccaa.U64 Go.Proofs.Ytifehkjcccjccaa.RingBase
theorem RingDot : symbolonlaw01_RingDot.Pure := by
  intro l0 l1 l2 a3 _ h0 w0 _ h1 w1 _ h2 w2 h3
  obtain ⟨a, ea⟩ := uns_of w0
  obtain ⟨b, eb⟩ := uns_of w1
  obtain ⟨c, ec⟩ := uns_of w2
  obtain ⟨x, rfl⟩ := un_of h3
  have fa := fits_of h0 ea
  have fb := fits_of h1 eb
  have fc := fits_of h2 ec
  subst ea eb ec
  apply Ev.rounds
  unfold symbolonlaw01_RingDot.f
  rw [uns_length, uns_length, uns_length, mn_nat, mn_nat]
  obtain ⟨n, hn⟩ : ∃ n, min (min a.length b.length) c.length = n := ⟨_, rfl⟩
  rw [hn]
  refine Ev.bind head_ev ?_
  by_cases hbig : ((n : Nat) : Int) > 3000
  · simp only [if_pos hbig]
    exact Ev.now _
  have c1 : (0 : Int) ≤ ((n : Nat) : Int) := by omega
  have c2 : ((n : Nat) : Int) ≤ (a.length : Int) := by omega
  have c3 : ((n : Nat) : Int) ≤ (b.length : Int) := by omega
  have c4 : ((n : Nat) : Int) ≤ (c.length : Int) := by omega
  simp only [if_neg hbig, if_pos c1, if_pos c2, if_pos c3, if_pos c4, if_true, Int.toNat_natCast, uns_take]
  have fa' := fits_take n fa
  have fb' := fits_take n fb
  have fc' := fits_take n fc
  have hab : (a.take n).length = (b.take n).length := by rw [List.length_take, List.length_take]; omega
  refine Ev.bind (add_ev fa' fb') (Ev.bind (dot_ev (fits_zw fa') fc') (Ev.bind (dot_ev fa' fc') (Ev.bind (dot_ev fb' fc') ?_)))
  rw [un_add, ← dt_add _ _ _ hab]
  simp only [if_true]
  refine Ev.bind (sub_ev fa' fb') (Ev.bind (dot_ev fc' (fits_zw fa')) (Ev.bind (dot_ev fc' fa') (Ev.bind (dot_ev fc' fb') ?_)))
  rw [un_sub, ← dt_sub _ _ _ hab]
  simp only [if_true]
  refine Ev.bind (scale_ev x fa') (Ev.bind (dot_ev (fits_sc fa') fb') (Ev.bind (dot_ev fa' fb') ?_))
  rw [un_mul, ← dt_sc]
  simp only [if_true]
  refine Ev.bind (dot_ev fa' fb') (Ev.bind (dot_ev fb' fa') ?_)
  rw [dt_comm, beq_self_eq_true]
  exact Ev.now _
end Go.Proofs.Ytifehkjcccjccaa.Pure
