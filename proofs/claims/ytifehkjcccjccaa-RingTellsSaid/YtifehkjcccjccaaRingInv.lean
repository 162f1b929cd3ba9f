/- The inverse of an odd word: the program's, by doubling the right bits, and the reference's, bit by bit. -/
import Derived.Test.YtifehkjcccjccaaRingAlg
set_option linter.unusedSimpArgs false
namespace Go.Proofs.Ytifehkjcccjccaa.RingBase
open Go Go.RowKit Go.Proofs.Ytifehkjcccjccaa.PRg Go.Proofs.YtifehkjcccjccaaW.PrintWords Go.Proofs.YtifehkjcccjccaaW.PrintLast Go.Proofs.YtifehkjcccjccaaW.PrintMore Go.Proofs.Ytifehkjcccjccaa.U64
def stepI (x y : W64) : W64 := y * (2#64 - x * y)
def newton (x : W64) : W64 := stepI x (stepI x (stepI x (stepI x (stepI x x))))
theorem err_step (x y : W64) : 1#64 - x * stepI x y = (1#64 - x * y) * (1#64 - x * y) := by
  unfold stepI
  have h : x * (y * (2#64 - x * y)) = (x * y) * (2#64 - x * y) := by rw [BitVec.mul_assoc]
  rw [h]
  generalize x * y = p
  have e1 : p * (2#64 - p) = p + p - p * p := by
    rw [mul_sub_, show (2#64 : W64) = 1#64 + 1#64 from rfl, BitVec.mul_add, BitVec.mul_one]
  have e2 : (1#64 - p) * (1#64 - p) = 1#64 - p - (p - p * p) := by
    rw [mul_sub_, BitVec.mul_one, BitVec.mul_comm (1#64 - p) p, mul_sub_, BitVec.mul_one]
  rw [e1, e2]
  simp only [BitVec.sub_eq_add_neg, BitVec.neg_add, BitVec.neg_neg, BitVec.add_assoc]
theorem sq_eight (n : Nat) (h : n % 2 = 1) : ∃ s, n * n = 8 * s + 1 := by
  obtain ⟨q, rfl⟩ : ∃ q, n = 2 * q + 1 := ⟨n / 2, by omega⟩
  have h1 : (2 * q + 1) * (2 * q + 1) = 4 * (q * q) + 4 * q + 1 := by
    simp only [Nat.mul_add, Nat.add_mul]
    have : 2 * q * (2 * q) = 4 * (q * q) := by rw [Nat.mul_mul_mul_comm]
    omega
  rw [h1]
  by_cases hq : q % 2 = 0
  · obtain ⟨r, rfl⟩ : ∃ r, q = 2 * r := ⟨q / 2, by omega⟩
    refine ⟨2 * (r * r) + r, ?_⟩
    have : 2 * r * (2 * r) = 4 * (r * r) := by rw [Nat.mul_mul_mul_comm]
    omega
  · obtain ⟨r, rfl⟩ : ∃ r, q = 2 * r + 1 := ⟨q / 2, by omega⟩
    refine ⟨2 * (r * r) + 3 * r + 1, ?_⟩
    have : (2 * r + 1) * (2 * r + 1) = 4 * (r * r) + 4 * r + 1 := by
      simp only [Nat.mul_add, Nat.add_mul]
      have : 2 * r * (2 * r) = 4 * (r * r) := by rw [Nat.mul_mul_mul_comm]
      omega
    omega
theorem err_first (x : W64) (h : x.toNat % 2 = 1) : ∃ t, 1#64 - x * x = 8#64 * t := by
  obtain ⟨s, hs⟩ := sq_eight x.toNat h
  refine ⟨-(BitVec.ofNat 64 s), ?_⟩
  have : x * x = 8#64 * BitVec.ofNat 64 s + 1#64 := by
    apply BitVec.eq_of_toNat_eq
    rw [BitVec.toNat_mul, hs, BitVec.toNat_add, BitVec.toNat_mul, BitVec.toNat_ofNat, BitVec.toNat_ofNat, BitVec.toNat_ofNat]
    omega
  rw [this, BitVec.mul_neg]
  generalize 8#64 * BitVec.ofNat 64 s = q
  have h1 : -q + (q + 1#64) = 1#64 := by rw [← BitVec.add_assoc, BitVec.add_comm (-q), ← BitVec.sub_eq_add_neg, BitVec.sub_self, BitVec.zero_add]
  have h2 := congrArg (· - (q + 1#64)) h1
  simp only [BitVec.add_sub_cancel] at h2
  exact h2.symm
theorem mul_sq (c t : W64) : (c * t) * (c * t) = (c * c) * (t * t) := by ac_rfl
theorem newton_inv (x : W64) (h : x.toNat % 2 = 1) : x * newton x = 1#64 := by
  obtain ⟨t, ht⟩ := err_first x h
  have h5 : 1#64 - x * newton x = 0#64 := by
    unfold newton
    rw [err_step, err_step, err_step, err_step, err_step, ht]
    have q1 : (8#64 * t) * (8#64 * t) = 64#64 * (t * t) := by rw [mul_sq]; rfl
    have q2 : ∀ u : W64, (64#64 * u) * (64#64 * u) = 4096#64 * (u * u) := by intro u; rw [mul_sq]; rfl
    have q3 : ∀ u : W64, (4096#64 * u) * (4096#64 * u) = 16777216#64 * (u * u) := by intro u; rw [mul_sq]; rfl
    have q4 : ∀ u : W64, (16777216#64 * u) * (16777216#64 * u) = 281474976710656#64 * (u * u) := by intro u; rw [mul_sq]; rfl
    have q5 : ∀ u : W64, (281474976710656#64 * u) * (281474976710656#64 * u) = 0#64 := by intro u; rw [mul_sq, show (281474976710656#64 * 281474976710656#64 : W64) = 0#64 from rfl, BitVec.zero_mul]
    rw [q1, q2, q3, q4, q5]
  have := congrArg (· + x * newton x) h5
  simp only [BitVec.sub_add_cancel, BitVec.zero_add] at this
  exact this.symm
theorem inv_unique {x a b : W64} (ha : x * a = 1#64) (hb : x * b = 1#64) : a = b := by
  have : a * (x * b) = b := by rw [← BitVec.mul_assoc, BitVec.mul_comm a x, ha, BitVec.one_mul]
  rw [hb, BitVec.mul_one] at this
  exact this
theorem lit_two : (2 : Int) = un 2#64 := by decide +kernel
theorem and_one (x : W64) : Go.bits .and .u64 (un x) 1 = ((x.toNat % 2 : Nat) : Int) := by
  rw [show Go.bits .and .u64 (un x) 1 = un (x &&& 1#64) from un_and x 1#64]
  unfold un
  rw [BitVec.toNat_and, show (1#64 : W64).toNat = 1 from rfl, Nat.and_one_is_mod]
theorem inverse_even (x : W64) (h : x.toNat % 2 = 0) (k : Nat) : ring_Inverse.f k (un x) = some (0, false) := by
  unfold ring_Inverse.f
  rw [and_one, h, if_pos (by decide)]
theorem inverse_odd (x : W64) (h : x.toNat % 2 = 1) (k : Nat) : ring_Inverse.f (k + 6) (un x) = some (un (newton x), true) := by
  unfold ring_Inverse.f
  rw [and_one, h, if_neg (by decide)]
  have w0 : wrap64 (0 + 1) = 1 := by decide +kernel
  have w1 : wrap64 (1 + 1) = 2 := by decide +kernel
  have w2 : wrap64 (2 + 1) = 3 := by decide +kernel
  have w3 : wrap64 (3 + 1) = 4 := by decide +kernel
  have w4 : wrap64 (4 + 1) = 5 := by decide +kernel
  have hs : ∀ y : W64, IntKind.u64.wrap (un y * IntKind.u64.wrap (2 - IntKind.u64.wrap (un x * un y))) = un (stepI x y) := by
    intro y
    rw [un_mul, lit_two, un_sub, un_mul]
    rfl
  simp only [ring_Inverse.l0, hs, w0, w1, w2, w3, w4]
  rfl
/-- What the inverse is, and whether there is one. -/
def invV (x : W64) : Int × Bool := if x.toNat % 2 = 1 then (un (newton x), true) else (0, false)
theorem inverse_ev (x : W64) : Ev (fun k => ring_Inverse.f k (un x)) (invV x) := by
  unfold invV
  by_cases h : x.toNat % 2 = 1
  · rw [if_pos h]
    exact ⟨6, fun k hk => by obtain ⟨m, rfl⟩ : ∃ m, k = m + 6 := ⟨k - 6, by omega⟩; exact inverse_odd x h m⟩
  · rw [if_neg h]
    exact ⟨0, fun k _ => inverse_even x (by omega) k⟩
/-! ### The reference's, bit by bit -/
theorem pow64 {i : Nat} (hi : i < 64) : 2 ^ i < 18446744073709551616 := Nat.lt_of_lt_of_le (Nat.pow_lt_pow_right (by decide) hi) (by decide)
theorem bit_of (p i : Nat) (hp : p < 18446744073709551616) : Int.tmod (IntKind.u64.wrap (Int.tdiv (p : Int) ((2 ^ i : Nat) : Int))) 2 = ((p / 2 ^ i % 2 : Nat) : Int) := by
  rw [← Int.ofNat_tdiv, wrap_un, un_ofInt]
  have h1 : p / 2 ^ i ≤ p := Nat.div_le_self _ _
  have h2 : ((p / 2 ^ i : Nat) : Int) % 18446744073709551616 = ((p / 2 ^ i : Nat) : Int) := by
    generalize p / 2 ^ i = q at h1 ⊢
    omega
  rw [h2]
  exact (Int.ofNat_tmod (p / 2 ^ i) 2).symm
theorem flip_bit (p n i v : Nat) (hi : i < 64) (hn : n % 2 = 1) (hr : p % 2 ^ i = 1 % 2 ^ i) (hv : p / 2 ^ i % 2 ≠ v) (hv2 : v < 2) : (p + n * 2 ^ i) % 18446744073709551616 % 2 ^ (i + 1) = 1 % 2 ^ i + 2 ^ i * v := by
  have hd : 2 ^ (i + 1) ∣ 18446744073709551616 := by
    rw [show (18446744073709551616 : Nat) = 2 ^ 64 from by decide]
    exact Nat.pow_dvd_pow 2 (by omega)
  rw [Nat.mod_mod_of_dvd _ hd, Nat.mod_pow_succ]
  have hpos : 0 < 2 ^ i := Nat.pow_pos (by decide)
  rw [Nat.add_mul_mod_self_right, hr, Nat.add_mul_div_right _ _ hpos]
  congr 2
  omega
theorem ref_inv_l0 (x : W64) (hx : x.toNat % 2 = 1) (d : Nat) : ∀ (i k : Nat) (y : W64), i + d = 64 → d + 1 ≤ k → (x * y).toNat % 2 ^ i = 1 % 2 ^ i →
    ∃ z : W64, symbolonref01_Inverse.l0 k (un x) (un y) ((2 ^ i % 18446744073709551616 : Nat) : Int) (i : Int) = some (un z, true) ∧ x * z = 1#64 := by
  induction d with
  | zero =>
    intro i k y hi hk hp
    obtain ⟨m, rfl⟩ : ∃ m, k = m + 1 := ⟨k - 1, by omega⟩
    obtain rfl : i = 64 := by omega
    refine ⟨y, ?_, ?_⟩
    · simp only [symbolonref01_Inverse.l0]
      rw [if_neg (by omega)]
    · apply BitVec.eq_of_toNat_eq
      have := (x * y).isLt
      rw [show (1#64 : W64).toNat = 1 from rfl]
      omega
  | succ d ih =>
    intro i k y hi hk hp
    obtain ⟨m, rfl⟩ : ∃ m, k = m + 1 := ⟨k - 1, by omega⟩
    have hi64 : i < 64 := by omega
    have hpow := pow64 hi64
    have hpos : 0 < 2 ^ i := Nat.pow_pos (by decide)
    have hne : ¬ ((2 ^ i : Nat) : Int) = 0 := by
      generalize 2 ^ i = q at hpos
      omega
    have hilt : (i : Int) < 64 := by omega
    have hi' : i + 1 + d = 64 := by omega
    have hk' : d + 1 ≤ m := by omega
    have hz : i = 0 → (i : Int) = 0 := by omega
    have hz2 : ¬ i = 0 → ¬ (i : Int) = 0 := by omega
    have hi1 : wrap64 ((i : Int) + 1) = ((i + 1 : Nat) : Int) := w64_succ (by omega)
    have hi1' : i + 1 ≠ 0 := by omega
    have hb : ((2 ^ i % 18446744073709551616 : Nat) : Int) = ((2 ^ i : Nat) : Int) := by rw [Nat.mod_eq_of_lt hpow]
    have hbu : ((2 ^ i : Nat) : Int) = un (BitVec.ofNat 64 (2 ^ i)) := un_lit _ hpow
    have hb2 : IntKind.u64.wrap (((2 ^ i : Nat) : Int) * 2) = ((2 ^ (i + 1) % 18446744073709551616 : Nat) : Int) := by
      rw [wrap_un, un_ofInt, Nat.pow_succ]
      generalize 2 ^ i = q
      omega
    have hbit := bit_of (x * y).toNat i (x * y).isLt
    have hprod : IntKind.u64.wrap (un x * un y) = ((x * y).toNat : Int) := un_mul x y
    have hadd : IntKind.u64.wrap (un y + ((2 ^ i : Nat) : Int)) = un (y + BitVec.ofNat 64 (2 ^ i)) := by rw [hbu, un_add]
    have hmul : (x * (y + BitVec.ofNat 64 (2 ^ i))).toNat = ((x * y).toNat + x.toNat * 2 ^ i) % 18446744073709551616 := by
      rw [BitVec.mul_add, BitVec.toNat_add, BitVec.toNat_mul x (BitVec.ofNat 64 (2 ^ i)), BitVec.toNat_ofNat, Nat.mod_eq_of_lt (show 2 ^ i < 2 ^ 64 from hpow), Nat.add_mod_mod]
    simp only [symbolonref01_Inverse.l0]
    rw [hb, hprod, hbit, hi1, hb2, hadd, if_pos hilt]
    have stay : ∀ v, v < 2 → (x * y).toNat / 2 ^ i % 2 = v → (x * y).toNat % 2 ^ (i + 1) = 1 % 2 ^ i + 2 ^ i * v := by
      intro v _ h
      rw [Nat.mod_pow_succ, hp, h]
    have turn : ∀ v, v < 2 → (x * y).toNat / 2 ^ i % 2 ≠ v → (x * (y + BitVec.ofNat 64 (2 ^ i))).toNat % 2 ^ (i + 1) = 1 % 2 ^ i + 2 ^ i * v := by
      intro v h2 h
      rw [hmul]
      exact flip_bit _ _ i v hi64 hx hp h h2
    by_cases h0 : i = 0
    · have h0i := hz h0
      rw [if_pos h0i, if_neg hne]
      subst h0
      by_cases hv : (x * y).toNat / 2 ^ 0 % 2 = 1
      · rw [hv, if_pos (by decide)]
        exact ih 1 m y hi' hk' ((stay 1 (by decide) hv).trans (by decide))
      · rw [if_neg (fun e => hv (by exact Int.ofNat_inj.mp e))]
        exact ih 1 m _ hi' hk' ((turn 1 (by decide) hv).trans (by decide))
    · have h0i := hz2 h0
      rw [if_neg h0i, if_neg hne]
      have h1i : 1 % 2 ^ i = 1 := Nat.mod_eq_of_lt (Nat.one_lt_two_pow h0)
      have h1s : 1 % 2 ^ (i + 1) = 1 := Nat.mod_eq_of_lt (Nat.one_lt_two_pow hi1')
      by_cases hv : (x * y).toNat / 2 ^ i % 2 = 0
      · rw [hv, if_pos (by decide)]
        exact ih (i + 1) m y hi' hk' (by rw [stay 0 (by decide) hv, h1i, h1s, Nat.mul_zero])
      · rw [if_neg (fun e => hv (by exact Int.ofNat_inj.mp e))]
        exact ih (i + 1) m _ hi' hk' (by rw [turn 0 (by decide) hv, h1i, h1s, Nat.mul_zero])
theorem ref_inverse_ev (x : W64) : Ev (fun k => symbolonref01_Inverse.f k (un x)) (invV x) := by
  have ht : Int.tmod (un x) 2 = ((x.toNat % 2 : Nat) : Int) := (Int.ofNat_tmod x.toNat 2).symm
  unfold invV
  by_cases h : x.toNat % 2 = 1
  · rw [if_pos h]
    refine ⟨65, fun k hk => ?_⟩
    obtain ⟨z, hz, hx⟩ := ref_inv_l0 x h 64 0 k 0#64 (by omega) (by omega) (by rw [Nat.pow_zero, Nat.mod_one, Nat.mod_one])
    have : newton x = z := inv_unique (newton_inv x h) hx
    rw [this]
    unfold symbolonref01_Inverse.f
    show (if Int.tmod (un x) 2 = 0 then _ else _) = _
    rw [ht, h, if_neg (by decide)]
    exact hz
  · rw [if_neg h]
    refine ⟨0, fun k _ => ?_⟩
    unfold symbolonref01_Inverse.f
    show (if Int.tmod (un x) 2 = 0 then _ else _) = _
    rw [ht, show x.toNat % 2 = 0 by omega, if_pos (by decide)]
end Go.Proofs.Ytifehkjcccjccaa.RingBase
