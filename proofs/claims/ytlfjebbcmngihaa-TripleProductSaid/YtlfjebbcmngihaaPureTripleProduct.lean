/- The sum of both parties' Cs is the product of the sums of both As and both Bs: for every seed, place and party. -/
import Derived.Test.YtlfjebbcmngihaaTripleBase
namespace Go.Proofs.Ytlfjebbcmngihaa.Pure
open Go Go.RowKit Go.Proofs.Ytlfjebbcmngihaa.PTr Go.Proofs.YtlfjebbcmngihaaW.PrintWords Go.Proofs.YtlfjebbcmngihaaW.PrintLast Go.Proofs.YtlfjebbcmngihaaW.PrintMore Go.Proofs.Ytlfjebbcmngihaa.U64 Go.Proofs.Ytlfjebbcmngihaa.TripleBase
theorem half_zero (s i : BitVec 64) : half s 0 i = (un (m0 s i), un (m1 s i), un (m2 s i)) := by unfold half; rw [if_pos rfl]
theorem half_other (s i : BitVec 64) {who : Int} (h : ¬ who = 0) : half s who i = (un (m3 s i), un (m4 s i), un (m5 s i)) := by unfold half; rw [if_neg h]
theorem TripleProduct : symbolonlaw11_TripleProduct.Pure := by
  intro a0 a1 a2 h0 h1 h2
  obtain ⟨s, rfl⟩ := un_of h0
  obtain ⟨i, rfl⟩ := un_of h1
  apply Ev.rounds
  unfold symbolonlaw11_TripleProduct.f
  refine Ev.bind head_ev (Ev.bind (half_ev s 0 i) (Ev.bind (half_ev s 1 i) (Ev.bind (half_ev s a2 i) ?_)))
  have hp : m2 s i + m5 s i = (m0 s i + m3 s i) * (m1 s i + m4 s i) := by
    unfold m5
    rw [BitVec.add_comm, BitVec.sub_add_cancel]
  rw [half_zero, half_other s i (show ¬ (1 : Int) = 0 by decide)]
  simp only [un_add, un_mul, hp, if_true]
  by_cases h : a2 = 0
  · rw [h, half_zero]
    simp only [if_true, beq_self_eq_true, Bool.and_self]
    exact Ev.now _
  · rw [half_other s i h]
    simp only [if_neg h, beq_self_eq_true, Bool.and_self]
    exact Ev.now _
end Go.Proofs.Ytlfjebbcmngihaa.Pure
