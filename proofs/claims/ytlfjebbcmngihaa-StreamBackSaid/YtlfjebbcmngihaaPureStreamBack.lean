/- Each number of 64 bits is one of each seed's stream, and at one place alone: for every seed, place and number. -/
import Derived.Test.YtlfjebbcmngihaaStreamHead
namespace Go.Proofs.Ytlfjebbcmngihaa.Pure
open Go Go.RowKit Go.Proofs.Ytlfjebbcmngihaa.PSt Go.Proofs.YtlfjebbcmngihaaW.PrintWords Go.Proofs.YtlfjebbcmngihaaW.PrintLast Go.Proofs.YtlfjebbcmngihaaW.PrintMore Go.Proofs.Ytlfjebbcmngihaa.U64 Go.Proofs.Ytlfjebbcmngihaa.StreamBase
theorem StreamBack : symbolonlaw09_StreamBack.Pure := by
  intro a0 a1 a2 h0 h1 h2
  obtain ⟨s, rfl⟩ := un_of h0
  obtain ⟨i, rfl⟩ := un_of h1
  obtain ⟨n, rfl⟩ := un_of h2
  apply Ev.rounds
  unfold symbolonlaw09_StreamBack.f
  refine Ev.bind head_ev ?_
  simp only [if_true]
  refine Ev.bind (number_ev s i) (Ev.bind (back_ev s _) ?_)
  rw [bk_nb]
  simp only [if_true]
  refine Ev.bind (back_ev s n) (Ev.bind (number_ev s _) ?_)
  rw [nb_bk, beq_self_eq_true]
  exact Ev.now _
end Go.Proofs.Ytlfjebbcmngihaa.Pure
