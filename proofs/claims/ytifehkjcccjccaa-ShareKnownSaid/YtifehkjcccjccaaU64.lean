/- Numbers of 64 bits as words: what the printed functions reckon with wraps, told of BitVec 64. -/
import Derived.Test.YtifehkjcccjccaaWMore
namespace Go.Proofs.Ytifehkjcccjccaa.U64
open Go Go.RowKit Go.Proofs.YtifehkjcccjccaaW.PrintWords Go.Proofs.YtifehkjcccjccaaW.PrintLast Go.Proofs.YtifehkjcccjccaaW.PrintMore
/-- The number that a 64-bit word is. -/
def un (x : BitVec 64) : Int := (x.toNat : Int)
theorem un_ofInt (n : Int) : un (BitVec.ofInt 64 n) = n % 18446744073709551616 := by
  unfold un
  rw [BitVec.toNat_ofInt]
  omega
theorem wrap_un (n : Int) : IntKind.u64.wrap n = un (BitVec.ofInt 64 n) := by
  rw [un_ofInt]
  simp [IntKind.wrap, IntKind.bits, IntKind.signed]
theorem ofInt_un (x : BitVec 64) : BitVec.ofInt 64 (un x) = x := by
  unfold un
  rw [BitVec.ofInt_natCast]
  exact BitVec.ofNat_toNat ..
theorem un_inj {x y : BitVec 64} : un x = un y ↔ x = y := by
  constructor
  · intro h
    rw [← ofInt_un x, ← ofInt_un y, h]
  · intro h
    rw [h]
theorem un_lo (x : BitVec 64) : 0 ≤ un x := by unfold un; omega
theorem un_hi (x : BitVec 64) : un x < 18446744073709551616 := by unfold un; have := x.isLt; omega
theorem un_of {a : Int} (h : (Lit.int .u64 a).wf = true) : ∃ x : BitVec 64, a = un x := by
  refine ⟨BitVec.ofInt 64 a, ?_⟩
  rw [un_ofInt]
  simp [Lit.wf, IntKind.min, IntKind.max, IntKind.signed, IntKind.bits] at h
  omega
theorem un_add (x y : BitVec 64) : IntKind.u64.wrap (un x + un y) = un (x + y) := by
  rw [wrap_un, BitVec.ofInt_add, ofInt_un, ofInt_un]
theorem un_mul (x y : BitVec 64) : IntKind.u64.wrap (un x * un y) = un (x * y) := by
  rw [wrap_un, BitVec.ofInt_mul, ofInt_un, ofInt_un]
theorem un_sub (x y : BitVec 64) : IntKind.u64.wrap (un x - un y) = un (x - y) := by
  rw [wrap_un, Int.sub_eq_add_neg, BitVec.ofInt_add, BitVec.ofInt_neg, ofInt_un, ofInt_un, BitVec.sub_eq_add_neg]
theorem un_lit (n : Nat) (h : n < 18446744073709551616) : (n : Int) = un (BitVec.ofNat 64 n) := by
  unfold un
  rw [BitVec.toNat_ofNat, Nat.mod_eq_of_lt h]
theorem wrap_of_un (x : BitVec 64) : IntKind.u64.wrap (un x) = un x := by rw [wrap_un, ofInt_un]
theorem un_xor (x y : BitVec 64) : Go.bits .xor .u64 (un x) (un y) = un (x ^^^ y) := by
  show IntKind.u64.wrap (((BitVec.ofInt 64 (un x)) ^^^ (BitVec.ofInt 64 (un y))).toNat : Int) = _
  rw [ofInt_un, ofInt_un]
  exact wrap_of_un _
theorem un_and (x y : BitVec 64) : Go.bits .and .u64 (un x) (un y) = un (x &&& y) := by
  show IntKind.u64.wrap (((BitVec.ofInt 64 (un x)) &&& (BitVec.ofInt 64 (un y))).toNat : Int) = _
  rw [ofInt_un, ofInt_un]
  exact wrap_of_un _
theorem un_or (x y : BitVec 64) : Go.bits .or .u64 (un x) (un y) = un (x ||| y) := by
  show IntKind.u64.wrap (((BitVec.ofInt 64 (un x)) ||| (BitVec.ofInt 64 (un y))).toNat : Int) = _
  rw [ofInt_un, ofInt_un]
  exact wrap_of_un _
theorem un_shr (x : BitVec 64) (n : Nat) (h : n ≤ 64) : shr .u64 (un x) (n : Int) = un (x >>> n) := by
  unfold shr un
  rw [BitVec.toNat_ushiftRight, Nat.shiftRight_eq_div_pow]
  have : min ((n : Int).toNat) IntKind.u64.bits = n := by show min ((n : Int).toNat) 64 = n; omega
  rw [this]
  norm_cast
theorem un_shl (x : BitVec 64) (n : Nat) (h : n ≤ 64) : shl .u64 (un x) (n : Int) = un (x <<< n) := by
  unfold shl
  have : min ((n : Int).toNat) IntKind.u64.bits = n := by show min ((n : Int).toNat) 64 = n; omega
  rw [this, wrap_un]
  congr 1
  apply BitVec.eq_of_toNat_eq
  rw [BitVec.toNat_shiftLeft, BitVec.toNat_ofInt, Nat.shiftLeft_eq]
  unfold un
  have : ((x.toNat : Int) * 2 ^ n) = ((x.toNat * 2 ^ n : Nat) : Int) := by norm_cast
  rw [this]
  omega
/-- A word, with itself some bits down laid upon it. -/
def sh (k : Nat) (z : BitVec 64) : BitVec 64 := z ^^^ (z >>> k)
def unsh (k : Nat) (z : BitVec 64) : BitVec 64 := z ^^^ ((z ^^^ (z >>> k)) >>> k)
theorem unsh_sh (k : Nat) (hk : 22 ≤ k) (z : BitVec 64) : unsh k (sh k z) = z := by
  apply BitVec.eq_of_getLsbD_eq
  intro i hi
  simp only [unsh, sh, BitVec.getLsbD_xor, BitVec.getLsbD_ushiftRight]
  have h3 : z.getLsbD (k + (k + (k + i))) = false := BitVec.getLsbD_of_ge _ _ (by omega)
  rw [h3]
  cases z.getLsbD i <;> cases z.getLsbD (k + i) <;> cases z.getLsbD (k + (k + i)) <;> rfl
theorem sh_unsh (k : Nat) (hk : 22 ≤ k) (z : BitVec 64) : sh k (unsh k z) = z := by
  apply BitVec.eq_of_getLsbD_eq
  intro i hi
  simp only [unsh, sh, BitVec.getLsbD_xor, BitVec.getLsbD_ushiftRight]
  have h3 : z.getLsbD (k + (k + (k + i))) = false := BitVec.getLsbD_of_ge _ _ (by omega)
  rw [h3]
  cases z.getLsbD i <;> cases z.getLsbD (k + i) <;> cases z.getLsbD (k + (k + i)) <;> rfl
end Go.Proofs.Ytifehkjcccjccaa.U64
