/- The statements' common beginning, and what the reference of chapter 9 comes to. -/
import Derived.Test.YtlfjebbcmngihaaStreamBase
import Derived.Test.YtlfjebbcmngihaaPStx
namespace Go.Proofs.Ytlfjebbcmngihaa.StreamBase
open Go Go.RowKit Go.Proofs.Ytlfjebbcmngihaa.PSt Go.Proofs.YtlfjebbcmngihaaW.PrintWords Go.Proofs.YtlfjebbcmngihaaW.PrintLast Go.Proofs.YtlfjebbcmngihaaW.PrintMore Go.Proofs.Ytlfjebbcmngihaa.U64
theorem rowI_le (s f : BitVec 64) (n : Nat) (h : n ≤ 4096) : rowI s f (n : Int) = rowL s f n := by
  unfold rowI
  by_cases h0 : n = 0
  · subst h0
    rfl
  · rw [if_neg (by omega), Int.toNat_natCast]
theorem rowI_length_le (s f : BitVec 64) (n : Int) : (rowI s f n).length ≤ 4096 := by
  unfold rowI
  split
  · simp
  · rw [rowL_length]; omega
theorem rd_rowL (s f : BitVec 64) (n j : Nat) (h : j < n) : rd (rowL s f n) (j : Int) = un (nb s (f + BitVec.ofNat 64 j)) := by
  unfold rd rowL
  rw [Int.toNat_natCast, List.getD_eq_getElem?_getD, List.getElem?_map, List.getElem?_range h]
  rfl
/-! ### The reference -/
theorem ref_shift (z : BitVec 64) (b : Nat) (hb : b ≤ 64) : symbolonref09_shift.f (un z) (b : Int) = some (un (sh b z)) := by
  unfold symbolonref09_shift.f
  rw [if_pos (by omega), un_shr z b hb, un_xor]
  rfl
theorem lit_c1 : (11400714819323198485 : Int) = un c1 := by decide +kernel
theorem lit_c2 : (13787848793156543929 : Int) = un c2 := by decide +kernel
theorem lit_c3 : (10723151780598845931 : Int) = un c3 := by decide +kernel
theorem lit_one : (1 : Int) = un 1#64 := by decide +kernel
theorem ref_number (s i : BitVec 64) : symbolonref09_Number.f (un s) (un i) = some (un (nb s i)) := by
  unfold symbolonref09_Number.f
  rw [lit_c1, lit_c2, lit_c3, lit_one, un_add, un_mul, un_add]
  rw [show symbolonref09_shift.f (un (s + (i + 1#64) * c1)) 30 = some (un (sh 30 (s + (i + 1#64) * c1))) from ref_shift _ 30 (by decide)]
  rw [Option.bind_some, un_mul]
  rw [show symbolonref09_shift.f (un (sh 30 (s + (i + 1#64) * c1) * c2)) 27 = some (un (sh 27 (sh 30 (s + (i + 1#64) * c1) * c2))) from ref_shift _ 27 (by decide)]
  rw [Option.bind_some, un_mul]
  rw [show symbolonref09_shift.f (un (sh 27 (sh 30 (s + (i + 1#64) * c1) * c2) * c3)) 31 = some (un (sh 31 (sh 27 (sh 30 (s + (i + 1#64) * c1) * c2) * c3))) from ref_shift _ 31 (by decide)]
  rw [Option.bind_some]
  unfold nb
  rw [BitVec.mul_comm c1, BitVec.mul_comm c2, BitVec.mul_comm c3]
end Go.Proofs.Ytlfjebbcmngihaa.StreamBase
