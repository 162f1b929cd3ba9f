/- A difference the other way round is the other one with all signs changed, and each is what the other one is taken away from noughts: for all rows that Go's memory can hold. -/
import Derived.Test.YtifehkjcccjccaaRingAlg
import Derived.Test.YtifehkjcccjccaaPRgx25
set_option linter.unusedSimpArgs false
namespace Go.Proofs.Ytifehkjcccjccaa.Pure
open Go Go.RowKit Go.Proofs.Ytifehkjcccjccaa.PRg Go.Proofs.YtifehkjcccjccaaW.PrintWords Go.Proofs.YtifehkjcccjccaaW.PrintLast Go.Proofs.YtifehkjcccjccaaW.PrintMore Go.Proofs.Ytifehkjcccjccaa.U64 Go.Proofs.Ytifehkjcccjccaa.RingBase
theorem RingSides : symbolonlaw01_RingSides.Pure := by
  intro l0 l1 _ h0 w0 _ h1 w1
  obtain ⟨a, ea⟩ := uns_of w0
  obtain ⟨b, eb⟩ := uns_of w1
  have fa := fits_of h0 ea
  have fb := fits_of h1 eb
  subst ea eb
  apply Ev.rounds
  unfold symbolonlaw01_RingSides.f
  rw [uns_length, uns_length, mn_nat]
  obtain ⟨n, hn⟩ : ∃ n, min a.length b.length = n := ⟨_, rfl⟩
  rw [hn]
  refine Ev.bind head_ev ?_
  by_cases hbig : ((n : Nat) : Int) > 3000
  · simp only [if_pos hbig]
    exact Ev.now _
  have c1 : (0 : Int) ≤ ((n : Nat) : Int) := by omega
  have c2 : ((n : Nat) : Int) ≤ (a.length : Int) := by omega
  have c3 : ((n : Nat) : Int) ≤ (b.length : Int) := by omega
  simp only [if_neg hbig, if_pos c1, if_pos c2, if_pos c3, if_true, Int.toNat_natCast, uns_take]
  have fa' := fits_take n fa
  have fb' := fits_take n fb
  have hab : (a.take n).length = (b.take n).length := by rw [List.length_take, List.length_take]; omega
  generalize a.take n = p at fa' hab ⊢
  generalize b.take n = q at fb' hab ⊢
  have z0 : un 0#64 = 0 := rfl
  refine Ev.bind (sub_ev fa' fb') (Ev.bind (sub_ev fb' fa') (Ev.bind (add_ev (fits_zw fa') (fits_zw fb')) (Ev.bind (sum_ev (fits_zw (fits_zw fa'))) ?_)))
  rw [zw_sides, sm_noughts, z0]
  simp only [if_true]
  refine Ev.bind (scale_ev 18446744073709551615#64 (fits_zw fa')) (Ev.bind (same_eq (sc_sides p q) (fits_sc (fits_zw fa'))) ?_)
  simp only [if_true]
  refine Ev.bind (add_ev (fits_zw fa') (fits_zw fb')) (Ev.bind (scale_ev 0#64 fa') (Ev.bind (same_eq ?_ (fits_zw (fits_zw fa'))) ?_))
  · rw [zw_sides, sc_zero, hab, Nat.min_self]
  simp only [if_true]
  refine Ev.bind (sum_ev (fits_zw fa')) (Ev.bind (sum_ev fa') (Ev.bind (sum_ev fb') ?_))
  rw [un_sub, ← sm_sub _ _ hab]
  simp only [if_true]
  refine Ev.bind (dot_ev (fits_zw fa') (fits_zw fa')) (Ev.bind (dot_ev (fits_zw fb') (fits_zw fb')) ?_)
  rw [dt_sides, beq_self_eq_true]
  exact Ev.now _
end Go.Proofs.Ytifehkjcccjccaa.Pure
