/- The reference's way back to a number's place, bit by bit. -/
import Derived.Test.YtlfjebbcmngihaaTripleBase
namespace Go.Proofs.Ytlfjebbcmngihaa.TripleBase
open Go Go.RowKit Go.Proofs.Ytlfjebbcmngihaa.PTr Go.Proofs.YtlfjebbcmngihaaW.PrintWords Go.Proofs.YtlfjebbcmngihaaW.PrintLast Go.Proofs.YtlfjebbcmngihaaW.PrintMore Go.Proofs.Ytlfjebbcmngihaa.U64
/-- The bits from place n on. -/
def above (n : Nat) (z : BitVec 64) : BitVec 64 := (z >>> n) <<< n
theorem above_bit (n : Nat) (z : BitVec 64) (i : Nat) : (above n z).getLsbD i = (decide (n ≤ i) && z.getLsbD i) := by
  unfold above
  rw [BitVec.getLsbD_shiftLeft, BitVec.getLsbD_ushiftRight]
  by_cases h : n ≤ i
  · have : n + (i - n) = i := by omega
    rw [this]
    by_cases h64 : i < 64
    · simp [h, h64]
    · simp [h, h64, BitVec.getLsbD_of_ge z i (by omega)]
  · simp [h]
theorem bit_and_one (x : BitVec 64) (i j : Nat) : ((x >>> i) &&& 1#64).getLsbD j = (decide (j = 0) && x.getLsbD i) := by
  rw [BitVec.getLsbD_and, BitVec.getLsbD_ushiftRight]
  have h1 : (1#64).getLsbD j = decide (j = 0) := by
    rw [show (1#64) = BitVec.ofNat 64 1 from rfl, BitVec.getLsbD_ofNat]
    by_cases h : j = 0
    · subst h; rfl
    · have : Nat.testBit 1 j = false := by
        cases j with
        | zero => exact absurd rfl h
        | succ j => simp [Nat.testBit_succ]
      simp [this, h]
  rw [h1]
  by_cases h : j = 0
  · subst h; simp
  · simp [h]
theorem one_bit (z x : BitVec 64) (k i : Nat) (hk : 22 ≤ k) (hi : i < 64) (hx : x = above (i + 1) (unsh k z)) :
    x ||| ((((z >>> i) &&& 1#64) ^^^ (if i + k < 64 then ((x >>> (i + k)) &&& 1#64) else 0#64)) <<< i) = above i (unsh k z) := by
  subst hx
  apply BitVec.eq_of_getLsbD_eq
  intro j hj
  rw [above_bit, BitVec.getLsbD_or, above_bit, BitVec.getLsbD_shiftLeft, BitVec.getLsbD_xor, bit_and_one]
  have key : (unsh k z).getLsbD i = (z.getLsbD i ^^ (unsh k z).getLsbD (i + k)) := by
    have h3 : z.getLsbD (k + (k + (k + i))) = false := BitVec.getLsbD_of_ge _ _ (by omega)
    simp only [unsh, BitVec.getLsbD_xor, BitVec.getLsbD_ushiftRight]
    rw [show k + (i + k) = k + (k + i) by omega, show i + k = k + i by omega, h3]
    cases z.getLsbD i <;> cases z.getLsbD (k + i) <;> cases z.getLsbD (k + (k + i)) <;> rfl
  have hsec : (if i + k < 64 then ((above (i + 1) (unsh k z) >>> (i + k)) &&& 1#64) else 0#64).getLsbD (j - i) = (decide (j - i = 0) && (unsh k z).getLsbD (i + k)) := by
    by_cases h : i + k < 64
    · rw [if_pos h, bit_and_one, above_bit]
      have : decide (i + 1 ≤ i + k) = true := by simp; omega
      rw [this, Bool.true_and]
    · rw [if_neg h, BitVec.getLsbD_of_ge (unsh k z) (i + k) (by omega)]
      simp
  rw [hsec]
  by_cases h : j = i
  · subst h
    have a1 : decide (j + 1 ≤ j) = false := by simp
    have a2 : decide (j ≤ j) = true := by simp
    rw [a1, a2, key]
    simp [hi]
  · by_cases h2 : j < i
    · have a1 : decide (i + 1 ≤ j) = false := by simp; omega
      have a2 : decide (i ≤ j) = false := by simp; omega
      rw [a1, a2]
      simp [h2]
    · have a1 : decide (i + 1 ≤ j) = true := by simp; omega
      have a2 : decide (i ≤ j) = true := by simp; omega
      have a3 : decide (j - i = 0) = false := by simp; omega
      rw [a1, a2, a3]
      simp
theorem ref_back_l0 (z : BitVec 64) (b : Nat) (hb : 22 ≤ b) (hb2 : b ≤ 64) : ∀ (i k : Nat), i ≤ 64 → i + 1 ≤ k →
    symbolonref09_back.l0 k (un z) (b : Int) (un (above i (unsh b z))) ((i : Int) - 1) = some (un (unsh b z)) := by
  intro i
  induction i with
  | zero =>
    intro k _ hk
    obtain ⟨m, rfl⟩ : ∃ m, k = m + 1 := ⟨k - 1, by omega⟩
    simp only [symbolonref09_back.l0]
    rw [if_neg (by omega)]
    congr 2
    apply BitVec.eq_of_getLsbD_eq
    intro j _
    rw [above_bit]
    simp
  | succ i ih =>
    intro k hi hk
    obtain ⟨m, rfl⟩ : ∃ m, k = m + 1 := ⟨k - 1, by omega⟩
    simp only [symbolonref09_back.l0]
    have e1 : (((i + 1 : Nat) : Int) - 1) = (i : Int) := by omega
    have e2 : wrap64 ((i : Int) + (b : Int)) = ((i + b : Nat) : Int) := by unfold wrap64; omega
    have e3 : wrap64 ((i : Int) - 1) = (i : Int) - 1 := by unfold wrap64; omega
    rw [e1, e2, e3, if_pos (by omega), if_pos (by omega)]
    have hone : Go.bits .and .u64 (shr .u64 (un z) (i : Int)) 1 = un ((z >>> i) &&& 1#64) := by rw [un_shr z i (by omega)]; exact un_and _ 1#64
    rw [hone]
    have hbit := one_bit z (above (i + 1) (unsh b z)) b i hb (by omega) rfl
    by_cases h : i + b < 64
    · rw [if_pos (by omega), if_pos (by omega), un_shr _ (i + b) (by omega)]
      have h2 : Go.bits .and .u64 (un (above (i + 1) (unsh b z) >>> (i + b))) 1 = un ((above (i + 1) (unsh b z) >>> (i + b)) &&& 1#64) := un_and _ 1#64
      rw [h2, un_xor, un_shl _ i (by omega), un_or]
      rw [if_pos h] at hbit
      rw [hbit]
      exact ih m (by omega) (by omega)
    · rw [if_neg (by omega), un_shl _ i (by omega), un_or]
      rw [if_neg h, BitVec.xor_zero] at hbit
      rw [hbit]
      exact ih m (by omega) (by omega)
theorem ref_back_ev (z : BitVec 64) (b : Nat) (hb : 22 ≤ b) (hb2 : b ≤ 64) : Ev (fun k => symbolonref09_back.f k (un z) (b : Int)) (un (unsh b z)) := by
  refine ⟨65, fun k hk => ?_⟩
  have h0 : above 64 (unsh b z) = 0#64 := by
    apply BitVec.eq_of_getLsbD_eq
    intro j hj
    rw [above_bit]
    have : decide (64 ≤ j) = false := by simp; omega
    rw [this]
    simp
  have := ref_back_l0 z b hb hb2 64 k (by omega) (by omega)
  rw [h0] at this
  exact this
theorem rinv_c1 : symbolonref01_Inverse.f 66 11400714819323198485 = some (un i1, true) := by decide +kernel
theorem rinv_c2 : symbolonref01_Inverse.f 66 13787848793156543929 = some (un i2, true) := by decide +kernel
theorem rinv_c3 : symbolonref01_Inverse.f 66 10723151780598845931 = some (un i3, true) := by decide +kernel
theorem ref_Back_ev (s n : BitVec 64) : Ev (fun k => symbolonref09_Back.f k (un s) (un n)) (un (bk s n)) := by
  unfold symbolonref09_Back.f
  refine Ev.bind (Ev.of (fun k => symbolonref01_Inverse.mono _ k) rinv_c3) (Ev.bind (Ev.of (fun k => symbolonref01_Inverse.mono _ k) rinv_c2) (Ev.bind (Ev.of (fun k => symbolonref01_Inverse.mono _ k) rinv_c1) ?_))
  refine Ev.bind (ref_back_ev n 31 (by decide) (by decide)) ?_
  rw [un_mul]
  refine Ev.bind (ref_back_ev _ 27 (by decide) (by decide)) ?_
  rw [un_mul]
  refine Ev.bind (ref_back_ev _ 30 (by decide) (by decide)) ?_
  rw [un_sub, un_mul, show IntKind.u64.wrap (un ((unsh 30 (unsh 27 (unsh 31 n * i3) * i2) - s) * i1) - 1) = _ from un_sub _ 1#64]
  exact Ev.now _
end Go.Proofs.Ytlfjebbcmngihaa.TripleBase
