/- Number, Back and Row answer as the reference of chapter 9 does: for every seed, place, number and length. -/
import Derived.Test.YtlfjebbcmngihaaStreamHead
import Derived.Test.YtlfjebbcmngihaaStreamRef
namespace Go.Proofs.Ytlfjebbcmngihaa.Pure
open Go Go.RowKit Go.Proofs.Ytlfjebbcmngihaa.PSt Go.Proofs.YtlfjebbcmngihaaW.PrintWords Go.Proofs.YtlfjebbcmngihaaW.PrintLast Go.Proofs.YtlfjebbcmngihaaW.PrintMore Go.Proofs.Ytlfjebbcmngihaa.U64 Go.Proofs.Ytlfjebbcmngihaa.StreamBase
theorem StreamTells : symbolonlaw09_StreamTells.Pure := by
  intro a0 a1 a2 a3 h0 h1 h2 h3
  obtain ⟨s, rfl⟩ := un_of h0
  obtain ⟨i, rfl⟩ := un_of h1
  obtain ⟨n, rfl⟩ := un_of h2
  apply Ev.rounds
  unfold symbolonlaw09_StreamTells.f
  rw [ref_number]
  refine Ev.bind head_ev ?_
  simp only [if_true]
  refine Ev.bind (number_ev s i) ?_
  simp only [Option.bind_some, if_true]
  refine Ev.bind (back_ev s n) (Ev.bind (ref_Back_ev s n) ?_)
  simp only [if_true]
  refine Ev.bind (row_any s i _) (Ev.bind (ref_row_ev s i _) ?_)
  refine Ev.bind (same_self _ (by have := rowI_length_le s i a3; omega)) ?_
  exact Ev.now _
end Go.Proofs.Ytlfjebbcmngihaa.Pure
