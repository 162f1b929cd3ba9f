/- Any party's part of any triple, and any row of them, are the reference's: for every seed, party, place and length. -/
import Derived.Test.YtlfjebbcmngihaaTripleRows
namespace Go.Proofs.Ytlfjebbcmngihaa.Pure
open Go Go.RowKit Go.Proofs.Ytlfjebbcmngihaa.PTr Go.Proofs.YtlfjebbcmngihaaW.PrintWords Go.Proofs.YtlfjebbcmngihaaW.PrintLast Go.Proofs.YtlfjebbcmngihaaW.PrintMore Go.Proofs.Ytlfjebbcmngihaa.U64 Go.Proofs.Ytlfjebbcmngihaa.TripleBase
theorem TripleTells : symbolonlaw11_TripleTells.Pure := by
  intro a0 a1 a2 a3 h0 h1 h2 h3
  obtain ⟨s, rfl⟩ := un_of h0
  obtain ⟨i, rfl⟩ := un_of h2
  apply Ev.rounds
  unfold symbolonlaw11_TripleTells.f
  rw [ref_half]
  refine Ev.bind head_ev ?_
  simp only [if_true]
  refine Ev.bind (half_ev s a1 i) ?_
  simp only [Option.bind_some, beq_self_eq_true, Bool.and_self, if_true]
  refine Ev.bind (row_any s a1 i _) (Ev.bind (ref_row_ev s a1 i _) ?_)
  refine Ev.bind (same_self _ (by have := rowTI_length_le s a1 i a3; omega)) ?_
  exact Ev.now _
end Go.Proofs.Ytlfjebbcmngihaa.Pure
