/- Unlike places of a seed have unlike numbers, and so have unlike seeds at one place: for every two seeds and places. -/
import Derived.Test.YtlfjebbcmngihaaStreamHead
namespace Go.Proofs.Ytlfjebbcmngihaa.Pure
open Go Go.RowKit Go.Proofs.Ytlfjebbcmngihaa.PSt Go.Proofs.YtlfjebbcmngihaaW.PrintWords Go.Proofs.YtlfjebbcmngihaaW.PrintLast Go.Proofs.YtlfjebbcmngihaaW.PrintMore Go.Proofs.Ytlfjebbcmngihaa.U64 Go.Proofs.Ytlfjebbcmngihaa.StreamBase
theorem StreamApart : symbolonlaw09_StreamApart.Pure := by
  intro a0 a1 a2 a3 h0 h1 h2 h3
  obtain ⟨s, rfl⟩ := un_of h0
  obtain ⟨t, rfl⟩ := un_of h1
  obtain ⟨i, rfl⟩ := un_of h2
  obtain ⟨j, rfl⟩ := un_of h3
  apply Ev.rounds
  unfold symbolonlaw09_StreamApart.f
  have e1 : (un (nb s i) == un (nb s j)) = (un i == un j) := by
    rw [Bool.eq_iff_iff, beq_iff_eq, beq_iff_eq, un_inj, un_inj, nb_inj]
  have e2 : (un (nb s i) == un (nb t i)) = (un s == un t) := by
    rw [Bool.eq_iff_iff, beq_iff_eq, beq_iff_eq, un_inj, un_inj, nb_seed]
  refine Ev.bind head_ev ?_
  simp only [if_true]
  refine Ev.bind (number_ev s i) (Ev.bind (number_ev s j) ?_)
  rw [e1, beq_self_eq_true]
  simp only [if_true]
  refine Ev.bind (number_ev s i) (Ev.bind (number_ev t i) ?_)
  rw [e2, beq_self_eq_true]
  exact Ev.now _
end Go.Proofs.Ytlfjebbcmngihaa.Pure
