/- A seed that is so many steps of the stream further tells the numbers, and the rows, that stand so many places further: for every seed, place, number of steps and length. -/
import Derived.Test.YtlfjebbcmngihaaStreamHead
namespace Go.Proofs.Ytlfjebbcmngihaa.Pure
open Go Go.RowKit Go.Proofs.Ytlfjebbcmngihaa.PSt Go.Proofs.YtlfjebbcmngihaaW.PrintWords Go.Proofs.YtlfjebbcmngihaaW.PrintLast Go.Proofs.YtlfjebbcmngihaaW.PrintMore Go.Proofs.Ytlfjebbcmngihaa.U64 Go.Proofs.Ytlfjebbcmngihaa.StreamBase
theorem rowI_shift (s f k : BitVec 64) (n : Int) : rowI (s + k * c1) f n = rowI s (f + k) n := by
  unfold rowI rowL
  congr 1
  apply List.map_congr_left
  intro j _
  rw [nb_shift, BitVec.add_assoc, BitVec.add_comm _ k, ← BitVec.add_assoc]
theorem StreamShift : symbolonlaw09_StreamShift.Pure := by
  intro a0 a1 a2 a3 h0 h1 h2 h3
  obtain ⟨s, rfl⟩ := un_of h0
  obtain ⟨i, rfl⟩ := un_of h1
  obtain ⟨k, rfl⟩ := un_of h2
  apply Ev.rounds
  unfold symbolonlaw09_StreamShift.f
  rw [show IntKind.u64.wrap (un k * 11400714819323198485) = un (k * c1) from un_mul k c1, un_add, un_add]
  refine Ev.bind head_ev ?_
  simp only [if_true]
  refine Ev.bind (number_ev _ i) (Ev.bind (number_ev s _) ?_)
  rw [nb_shift]
  simp only [if_true]
  refine Ev.bind (row_any _ i _) (Ev.bind (row_any s _ _) ?_)
  rw [rowI_shift]
  refine Ev.bind (same_self _ (by have := rowI_length_le s (i + k) (wrap64 a3); omega)) ?_
  exact Ev.now _
end Go.Proofs.Ytlfjebbcmngihaa.Pure
