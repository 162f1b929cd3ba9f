/- The numbers of a stream in words, as far as triples need them: of the program and of the reference. -/
import Derived.Test.YtlfjebbcmngihaaU64
import Derived.Test.YtlfjebbcmngihaaPTrx
namespace Go.Proofs.Ytlfjebbcmngihaa.TripleBase
open Go Go.RowKit Go.Proofs.Ytlfjebbcmngihaa.PTr Go.Proofs.YtlfjebbcmngihaaW.PrintWords Go.Proofs.YtlfjebbcmngihaaW.PrintLast Go.Proofs.YtlfjebbcmngihaaW.PrintMore Go.Proofs.Ytlfjebbcmngihaa.U64
def c1 : BitVec 64 := 11400714819323198485#64
def c2 : BitVec 64 := 13787848793156543929#64
def c3 : BitVec 64 := 10723151780598845931#64
def i1 : BitVec 64 := 17428512612931826493#64
def i2 : BitVec 64 := 10871156337175269513#64
def i3 : BitVec 64 := 3573116690164977347#64
/-- The number at a place of a seed's stream. -/
def nb (s i : BitVec 64) : BitVec 64 := sh 31 (c3 * sh 27 (c2 * sh 30 (s + c1 * (i + 1#64))))
/-- The place of a number. -/
def bk (s n : BitVec 64) : BitVec 64 := (unsh 30 (unsh 27 (unsh 31 n * i3) * i2) - s) * i1 - 1#64
theorem e1 : c1 * i1 = 1#64 := by decide +kernel
theorem e2 : c2 * i2 = 1#64 := by decide +kernel
theorem e3 : c3 * i3 = 1#64 := by decide +kernel
theorem mul_back {c i : BitVec 64} (h : c * i = 1#64) (x : BitVec 64) : c * x * i = x := by
  rw [BitVec.mul_comm c x, BitVec.mul_assoc, h, BitVec.mul_one]
theorem mul_forth {c i : BitVec 64} (h : c * i = 1#64) (x : BitVec 64) : c * (x * i) = x := by
  rw [← BitVec.mul_assoc, mul_back h]
theorem bk_nb (s i : BitVec 64) : bk s (nb s i) = i := by
  unfold bk nb
  rw [unsh_sh 31 (by decide), mul_back e3, unsh_sh 27 (by decide), mul_back e2, unsh_sh 30 (by decide), BitVec.add_comm s, BitVec.add_sub_cancel, mul_back e1, BitVec.add_sub_cancel]
theorem nb_bk (s n : BitVec 64) : nb s (bk s n) = n := by
  unfold bk nb
  rw [BitVec.sub_add_cancel, mul_forth e1, BitVec.add_comm s, BitVec.sub_add_cancel, sh_unsh 30 (by decide), mul_forth e2, sh_unsh 27 (by decide), mul_forth e3, sh_unsh 31 (by decide)]
theorem nb_inj {s i j : BitVec 64} : nb s i = nb s j ↔ i = j := by
  constructor
  · intro h
    rw [← bk_nb s i, ← bk_nb s j, h]
  · intro h
    rw [h]
/-- So many steps further in the seed: so many places further. -/
theorem nb_shift (s i k : BitVec 64) : nb (s + k * c1) i = nb s (i + k) := by
  unfold nb
  have : s + k * c1 + c1 * (i + 1#64) = s + c1 * (i + k + 1#64) := by
    rw [BitVec.mul_comm k, BitVec.add_assoc, ← BitVec.mul_add, ← BitVec.add_assoc k, BitVec.add_comm k]
  rw [this]
theorem nb_seed {s t i : BitVec 64} : nb s i = nb t i ↔ s = t := by
  constructor
  · intro h
    have h1 : t = s + (t - s) := by rw [BitVec.add_comm, BitVec.sub_add_cancel]
    have h2 : t = s + ((t - s) * i1) * c1 := by rw [BitVec.mul_assoc, BitVec.mul_comm i1, e1, BitVec.mul_one]; exact h1
    rw [h2, nb_shift, nb_inj] at h
    have h3 : (t - s) * i1 = 0#64 := by
      have := congrArg (· - i) h
      simp only [BitVec.sub_self] at this
      rw [BitVec.add_comm, BitVec.add_sub_cancel] at this
      exact this.symm
    rw [h2, h3, BitVec.zero_mul, BitVec.add_zero]
  · intro h
    rw [h]
theorem fold_one (k : Nat) (z : BitVec 64) (b : Nat) (hb : b ≤ 64) : stream_fold.f (k + 2) (un z) (b : Int) 1 = some (un (sh b z)) := by
  simp only [stream_fold.f, stream_fold.l0]
  rw [if_pos (by decide), if_pos (by omega), if_neg (by unfold wrap64; omega), un_shr z b hb, un_xor]
  rfl
theorem number_at (k : Nat) (s i : BitVec 64) : stream_Number.f (k + 2) (un s) (un i) = some (un (nb s i)) := by
  unfold stream_Number.f
  rw [show IntKind.u64.wrap (un i + 1) = un (i + 1#64) from un_add i 1#64, show IntKind.u64.wrap (11400714819323198485 * un (i + 1#64)) = un (c1 * (i + 1#64)) from un_mul c1 _, un_add]
  rw [show stream_fold.f (k + 2) (un (s + c1 * (i + 1#64))) 30 1 = _ from fold_one k _ 30 (by decide)]
  simp only [Option.bind_some]
  rw [show IntKind.u64.wrap (13787848793156543929 * un (sh 30 (s + c1 * (i + 1#64)))) = _ from un_mul c2 _]
  rw [show stream_fold.f (k + 2) (un (c2 * sh 30 (s + c1 * (i + 1#64)))) 27 1 = _ from fold_one k _ 27 (by decide)]
  simp only [Option.bind_some]
  rw [show IntKind.u64.wrap (10723151780598845931 * un (sh 27 (c2 * sh 30 (s + c1 * (i + 1#64))))) = _ from un_mul c3 _]
  rw [show stream_fold.f (k + 2) (un (c3 * sh 27 (c2 * sh 30 (s + c1 * (i + 1#64))))) 31 1 = _ from fold_one k _ 31 (by decide)]
  rfl
theorem number_ev (s i : BitVec 64) : Ev (fun k => stream_Number.f k (un s) (un i)) (un (nb s i)) :=
  ⟨2, fun k hk => by obtain ⟨m, rfl⟩ : ∃ m, k = m + 2 := ⟨k - 2, by omega⟩; exact number_at m s i⟩
theorem wrap_nat (n : Nat) : IntKind.u64.wrap (n : Int) = un (BitVec.ofNat 64 n) := by rw [wrap_un, BitVec.ofInt_natCast]
theorem w64_succ {n : Nat} (h : n < 4611686018427387904) : wrap64 ((n : Int) + 1) = ((n + 1 : Nat) : Int) := by unfold wrap64; omega
theorem set_at {α : Type} (l : List α) (x y : α) (r : List α) (n : Nat) (h : l.length = n) : (l ++ x :: r).set n y = l ++ [y] ++ r := by
  subst h
  simp
theorem ref_shift (z : BitVec 64) (b : Nat) (hb : b ≤ 64) : symbolonref09_shift.f (un z) (b : Int) = some (un (sh b z)) := by
  unfold symbolonref09_shift.f
  rw [if_pos (by omega), un_shr z b hb, un_xor]
  rfl
theorem lit_c1 : (11400714819323198485 : Int) = un c1 := by decide +kernel
theorem lit_c2 : (13787848793156543929 : Int) = un c2 := by decide +kernel
theorem lit_c3 : (10723151780598845931 : Int) = un c3 := by decide +kernel
theorem lit_one : (1 : Int) = un 1#64 := by decide +kernel
theorem ref_number (s i : BitVec 64) : symbolonref09_Number.f (un s) (un i) = some (un (nb s i)) := by
  unfold symbolonref09_Number.f
  rw [lit_c1, lit_c2, lit_c3, lit_one, un_add, un_mul, un_add]
  rw [show symbolonref09_shift.f (un (s + (i + 1#64) * c1)) 30 = some (un (sh 30 (s + (i + 1#64) * c1))) from ref_shift _ 30 (by decide)]
  rw [Option.bind_some, un_mul]
  rw [show symbolonref09_shift.f (un (sh 30 (s + (i + 1#64) * c1) * c2)) 27 = some (un (sh 27 (sh 30 (s + (i + 1#64) * c1) * c2))) from ref_shift _ 27 (by decide)]
  rw [Option.bind_some, un_mul]
  rw [show symbolonref09_shift.f (un (sh 27 (sh 30 (s + (i + 1#64) * c1) * c2) * c3)) 31 = some (un (sh 31 (sh 27 (sh 30 (s + (i + 1#64) * c1) * c2) * c3))) from ref_shift _ 31 (by decide)]
  rw [Option.bind_some]
  unfold nb
  rw [BitVec.mul_comm c1, BitVec.mul_comm c2, BitVec.mul_comm c3]
/-! ### Triples -/
/-- The place of a triple's first number. -/
def p5 (i : BitVec 64) : BitVec 64 := 5#64 * i
def m0 (s i : BitVec 64) : BitVec 64 := nb s (p5 i)
def m1 (s i : BitVec 64) : BitVec 64 := nb s (p5 i + 1#64)
def m2 (s i : BitVec 64) : BitVec 64 := nb s (p5 i + 2#64)
def m3 (s i : BitVec 64) : BitVec 64 := nb s (p5 i + 3#64)
def m4 (s i : BitVec 64) : BitVec 64 := nb s (p5 i + 4#64)
def m5 (s i : BitVec 64) : BitVec 64 := (m0 s i + m3 s i) * (m1 s i + m4 s i) - m2 s i
/-- A party's part of a triple. -/
def half (s : BitVec 64) (who : Int) (i : BitVec 64) : Int × Int × Int := if who = 0 then (un (m0 s i), un (m1 s i), un (m2 s i)) else (un (m3 s i), un (m4 s i), un (m5 s i))
theorem lit_five : (5 : Int) = un 5#64 := by decide +kernel
theorem lit_two : (2 : Int) = un 2#64 := by decide +kernel
theorem lit_three : (3 : Int) = un 3#64 := by decide +kernel
theorem lit_four : (4 : Int) = un 4#64 := by decide +kernel
theorem half_at (k : Nat) (s : BitVec 64) (who : Int) (i : BitVec 64) : triple_Half.f (k + 2) (un s) who (un i) = some (half s who i) := by
  unfold triple_Half.f half
  have h5 : IntKind.u64.wrap (5 * un i) = un (p5 i) := un_mul 5#64 i
  rw [h5, wrap_of_un, lit_one, lit_two, lit_three, lit_four, un_add, un_add, un_add, un_add, number_at, Option.bind_some, number_at, Option.bind_some, number_at, Option.bind_some, number_at, Option.bind_some, number_at, Option.bind_some]
  by_cases h : who = 0
  · rw [if_pos h, if_pos h]
    rfl
  · rw [if_neg h, if_neg h, un_add, un_add, un_mul, un_sub]
    rfl
theorem half_ev (s : BitVec 64) (who : Int) (i : BitVec 64) : Ev (fun k => triple_Half.f k (un s) who (un i)) (half s who i) :=
  ⟨2, fun k hk => by obtain ⟨m, rfl⟩ : ∃ m, k = m + 2 := ⟨k - 2, by omega⟩; exact half_at m s who i⟩
theorem ref_half (s : BitVec 64) (who : Int) (i : BitVec 64) : symbolonref11_Half.f (un s) who (un i) = some (half s who i) := by
  unfold symbolonref11_Half.f half
  have h5 : IntKind.u64.wrap (5 * un i) = un (p5 i) := un_mul 5#64 i
  rw [h5, lit_one, lit_two, lit_three, lit_four, un_add, un_add, un_add, un_add, ref_number, Option.bind_some, ref_number, Option.bind_some, ref_number, Option.bind_some, ref_number, Option.bind_some, ref_number, Option.bind_some]
  by_cases h : who = 0
  · rw [if_pos h, if_pos h]
    rfl
  · rw [if_neg h, if_neg h, un_add, un_add, un_mul, un_sub]
    rfl
theorem half_shift (s : BitVec 64) (who : Int) (i k : BitVec 64) : half (s + 5#64 * k * c1) who i = half s who (i + k) := by
  have hp : p5 (i + k) = p5 i + 5#64 * k := by unfold p5; rw [BitVec.mul_add]
  have h0 : ∀ j, nb (s + 5#64 * k * c1) (p5 i + j) = nb s (p5 (i + k) + j) := by
    intro j
    rw [nb_shift, hp, BitVec.add_assoc, BitVec.add_comm j, ← BitVec.add_assoc]
  have h00 : nb (s + 5#64 * k * c1) (p5 i) = nb s (p5 (i + k)) := by rw [nb_shift, hp]
  unfold half m5 m0 m1 m2 m3 m4
  rw [h00, h0, h0, h0, h0]
theorem head_ev : Ev (fun k => symbolonlaw11_head.f k) true := Ev.of (fun k => symbolonlaw11_head.mono k) (k := 12) (by decide +kernel)
end Go.Proofs.Ytlfjebbcmngihaa.TripleBase
