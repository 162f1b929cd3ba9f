/- A seed that is five steps of the stream further tells the next triple: for every seed, party, place and number of triples. -/
import Derived.Test.YtlfjebbcmngihaaTripleBase
namespace Go.Proofs.Ytlfjebbcmngihaa.Pure
open Go Go.RowKit Go.Proofs.Ytlfjebbcmngihaa.PTr Go.Proofs.YtlfjebbcmngihaaW.PrintWords Go.Proofs.YtlfjebbcmngihaaW.PrintLast Go.Proofs.YtlfjebbcmngihaaW.PrintMore Go.Proofs.Ytlfjebbcmngihaa.U64 Go.Proofs.Ytlfjebbcmngihaa.TripleBase
theorem TripleShift : symbolonlaw11_TripleShift.Pure := by
  intro a0 a1 a2 a3 h0 h1 h2 h3
  obtain ⟨s, rfl⟩ := un_of h0
  obtain ⟨i, rfl⟩ := un_of h2
  obtain ⟨k, rfl⟩ := un_of h3
  apply Ev.rounds
  unfold symbolonlaw11_TripleShift.f
  rw [show IntKind.u64.wrap (5 * un k) = un (5#64 * k) from un_mul 5#64 k, lit_c1, un_mul, un_add, un_add]
  refine Ev.bind head_ev ?_
  simp only [if_true]
  refine Ev.bind (half_ev _ a1 i) (Ev.bind (half_ev s a1 _) ?_)
  rw [half_shift, beq_self_eq_true, beq_self_eq_true, beq_self_eq_true]
  exact Ev.now _
end Go.Proofs.Ytlfjebbcmngihaa.Pure
