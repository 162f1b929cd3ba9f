/- An odd number's inverse makes 1 with it and is odd, that of a product is the product of both, that of an inverse is the number, and an even number has none: for every two numbers. -/
import Derived.Test.YtifehkjcccjccaaRingInv
import Derived.Test.YtifehkjcccjccaaPRgx24
set_option linter.unusedSimpArgs false
namespace Go.Proofs.Ytifehkjcccjccaa.Pure
open Go Go.RowKit Go.Proofs.Ytifehkjcccjccaa.PRg Go.Proofs.YtifehkjcccjccaaW.PrintWords Go.Proofs.YtifehkjcccjccaaW.PrintLast Go.Proofs.YtifehkjcccjccaaW.PrintMore Go.Proofs.Ytifehkjcccjccaa.U64 Go.Proofs.Ytifehkjcccjccaa.RingBase
theorem lit_one_ : (1 : Int) = un 1#64 := by decide +kernel
theorem odd_mod (x : W64) : (Int.tmod (un x) 2 == 1) = decide (x.toNat % 2 = 1) := by
  rw [show Int.tmod (un x) 2 = ((x.toNat % 2 : Nat) : Int) from (Int.ofNat_tmod x.toNat 2).symm, Bool.eq_iff_iff, beq_iff_eq, decide_eq_true_eq]
  omega
theorem odd_mul (x y : W64) : (x * y).toNat % 2 = (x.toNat % 2) * (y.toNat % 2) % 2 := by
  rw [BitVec.toNat_mul, Nat.mod_mod_of_dvd _ (show 2 ∣ 2 ^ 64 by decide), Nat.mul_mod]
theorem odd_inv {x a : W64} (h : x * a = 1#64) : a.toNat % 2 = 1 := by
  have h1 := odd_mul x a
  rw [h, show (1#64 : W64).toNat = 1 from rfl] at h1
  by_cases ha : a.toNat % 2 = 1
  · exact ha
  · rw [show a.toNat % 2 = 0 by omega, Nat.mul_zero] at h1
    omega
theorem invV_odd {x : W64} (h : x.toNat % 2 = 1) : invV x = (un (newton x), true) := by unfold invV; rw [if_pos h]
theorem invV_even {x : W64} (h : ¬ x.toNat % 2 = 1) : invV x = (0, false) := by unfold invV; rw [if_neg h]
theorem inv_e1 {x : W64} (hx : x.toNat % 2 = 1) : IntKind.u64.wrap (un (newton x) * un x) = 1 := by
  rw [un_mul, BitVec.mul_comm, newton_inv x hx]
  exact lit_one_.symm
theorem inv_e2 {x : W64} (hx : x.toNat % 2 = 1) : Int.tmod (un (newton x)) 2 = 1 := by
  have h := odd_inv (newton_inv x hx)
  rw [show Int.tmod (un (newton x)) 2 = (((newton x).toNat % 2 : Nat) : Int) from (Int.ofNat_tmod _ 2).symm, h]
  decide
theorem inv_e3 {x y : W64} (hx : x.toNat % 2 = 1) (hy : y.toNat % 2 = 1) (hp : (x * y).toNat % 2 = 1) : newton (x * y) = newton x * newton y := by
  refine inv_unique (newton_inv (x * y) hp) ?_
  have h1 := newton_inv x hx
  have h2 := newton_inv y hy
  generalize newton x = a at h1 ⊢
  generalize newton y = b at h2 ⊢
  have : x * y * (a * b) = (x * a) * (y * b) := by ac_rfl
  rw [this, h1, h2, BitVec.mul_one]
theorem inv_e4 {x : W64} (hx : x.toNat % 2 = 1) : newton (newton x) = x := by
  refine inv_unique (newton_inv _ (odd_inv (newton_inv x hx))) ?_
  rw [BitVec.mul_comm]
  exact newton_inv x hx
set_option maxHeartbeats 1000000 in
theorem RingInverse : symbolonlaw01_RingInverse.Pure := by
  intro a0 a1 h0 h1
  obtain ⟨x, rfl⟩ := un_of h0
  obtain ⟨y, rfl⟩ := un_of h1
  apply Ev.rounds
  unfold symbolonlaw01_RingInverse.f
  rw [un_mul]
  refine Ev.bind head_ev (Ev.bind (inverse_ev x) (Ev.bind (inverse_ev y) (Ev.bind (inverse_ev (x * y)) ?_)))
  rw [odd_mod, odd_mod]
  have hxy := odd_mul x y
  by_cases hx : x.toNat % 2 = 1
  · by_cases hy : y.toNat % 2 = 1
    · have hp : (x * y).toNat % 2 = 1 := by rw [hxy, hx, hy]
      rw [invV_odd hx, invV_odd hy, invV_odd hp]
      rw [decide_eq_true hx, decide_eq_true hy]
      simp only [bne_self_eq_false, Bool.false_eq_true, if_false, if_true]
      refine ev_succ ?_
      simp only [symbolonlaw01_RingInverse.j0, Bool.false_eq_true, if_false, if_true]
      have hodd := odd_inv (newton_inv x hx)
      refine Ev.bind (inverse_ev (newton x)) ?_
      rw [invV_odd hodd]
      rw [inv_e1 hx, inv_e2 hx, inv_e3 hx hy hp, inv_e4 hx, un_mul]
      simp only [if_true, beq_self_eq_true]
      exact Ev.now _
    · have hp : ¬ (x * y).toNat % 2 = 1 := by rw [hxy, (Nat.mod_two_eq_zero_or_one y.toNat).resolve_right hy, Nat.mul_zero]; decide
      rw [invV_odd hx, invV_even hy, invV_even hp, decide_eq_true hx, decide_eq_false hy]
      simp only [bne_self_eq_false, Bool.false_eq_true, if_false, if_true]
      refine ev_succ ?_
      simp only [symbolonlaw01_RingInverse.j0, Bool.false_eq_true, if_false, if_true]
      exact Ev.now _
  · have hp : ¬ (x * y).toNat % 2 = 1 := by rw [hxy, (Nat.mod_two_eq_zero_or_one x.toNat).resolve_right hx, Nat.zero_mul]; decide
    rw [invV_even hx, invV_even hp]
    by_cases hy : y.toNat % 2 = 1
    · rw [invV_odd hy, decide_eq_false hx, decide_eq_true hy]
      simp only [bne_self_eq_false, Bool.false_eq_true, if_false, if_true]
      refine ev_succ ?_
      simp only [symbolonlaw01_RingInverse.j0, Bool.false_eq_true, if_false, if_true]
      exact Ev.now _
    · rw [invV_even hy, decide_eq_false hx, decide_eq_false hy]
      simp only [bne_self_eq_false, Bool.false_eq_true, if_false, if_true]
      refine ev_succ ?_
      simp only [symbolonlaw01_RingInverse.j0, Bool.false_eq_true, if_false, if_true]
      exact Ev.now _
end Go.Proofs.Ytifehkjcccjccaa.Pure
