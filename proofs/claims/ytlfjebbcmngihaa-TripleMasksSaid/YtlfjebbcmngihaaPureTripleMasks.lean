/- All masks are numbers of the stream, at places of their own, those of two triples or of two parties never at the same one: for every seed and every two places below 2^32. -/
import Derived.Test.YtlfjebbcmngihaaTripleRef
namespace Go.Proofs.Ytlfjebbcmngihaa.Pure
open Go Go.RowKit Go.Proofs.Ytlfjebbcmngihaa.PTr Go.Proofs.YtlfjebbcmngihaaW.PrintWords Go.Proofs.YtlfjebbcmngihaaW.PrintLast Go.Proofs.YtlfjebbcmngihaaW.PrintMore Go.Proofs.Ytlfjebbcmngihaa.U64 Go.Proofs.Ytlfjebbcmngihaa.TripleBase
theorem place_nat {i : Nat} (hi : i < 4294967296) (j : Nat) (hj : j < 5) : (p5 (BitVec.ofNat 64 i) + BitVec.ofNat 64 j).toNat = 5 * i + j := by
  unfold p5
  rw [BitVec.toNat_add, BitVec.toNat_mul, BitVec.toNat_ofNat, BitVec.toNat_ofNat, BitVec.toNat_ofNat, Nat.mod_eq_of_lt (show i < 2 ^ 64 by omega), Nat.mod_eq_of_lt (show j < 2 ^ 64 by omega), Nat.mod_eq_of_lt (show 5 < 2 ^ 64 by omega), Nat.mod_eq_of_lt (show 5 * i < 2 ^ 64 by omega), Nat.mod_eq_of_lt (show 5 * i + j < 2 ^ 64 by omega)]
theorem place_inj {i k : Nat} (hi : i < 4294967296) (hk : k < 4294967296) (j : Nat) (hj : j < 5) : (p5 (BitVec.ofNat 64 i) + BitVec.ofNat 64 j = p5 (BitVec.ofNat 64 k) + BitVec.ofNat 64 j) ↔ i = k := by
  constructor
  · intro h
    have h2 := congrArg BitVec.toNat h
    rw [place_nat hi j hj, place_nat hk j hj] at h2
    omega
  · intro h
    rw [h]
theorem place_apart {i k : Nat} (hi : i < 4294967296) (hk : k < 4294967296) (j l : Nat) (hj : j < 5) (hl : l < 5) (hjl : j ≠ l) : p5 (BitVec.ofNat 64 i) + BitVec.ofNat 64 j ≠ p5 (BitVec.ofNat 64 k) + BitVec.ofNat 64 l := by
  intro h
  have h2 := congrArg BitVec.toNat h
  rw [place_nat hi j hj, place_nat hk l hl] at h2
  omega
/-- The five masks of a triple: number j. -/
def mj (s i : BitVec 64) (j : Nat) : BitVec 64 := nb s (p5 i + BitVec.ofNat 64 j)
theorem m0_mj (s i : BitVec 64) : m0 s i = mj s i 0 := by unfold m0 mj; rw [show BitVec.ofNat 64 0 = 0#64 from rfl, BitVec.add_zero]
theorem mj_eq {s : BitVec 64} {i k : Nat} (hi : i < 4294967296) (hk : k < 4294967296) (j : Nat) (hj : j < 5) : (un (mj s (BitVec.ofNat 64 i) j) == un (mj s (BitVec.ofNat 64 k) j)) = ((i : Int) == (k : Int)) := by
  rw [Bool.eq_iff_iff, beq_iff_eq, beq_iff_eq, un_inj]
  unfold mj
  rw [nb_inj, place_inj hi hk j hj]
  omega
theorem mj_ne {s : BitVec 64} {i k : Nat} (hi : i < 4294967296) (hk : k < 4294967296) (j l : Nat) (hj : j < 5) (hl : l < 5) (hjl : j ≠ l) : un (mj s (BitVec.ofNat 64 i) j) ≠ un (mj s (BitVec.ofNat 64 k) l) := by
  rw [Ne, un_inj]
  unfold mj
  rw [nb_inj]
  exact place_apart hi hk j l hj hl hjl
def row5 (s i : BitVec 64) : List Int := [un (mj s i 0), un (mj s i 1), un (mj s i 2), un (mj s i 3), un (mj s i 4)]
theorem rd_row5 (s i : BitVec 64) (j : Nat) (hj : j < 5) : rd (row5 s i) (j : Int) = un (mj s i j) := by
  match j, hj with
  | 0, _ => rfl
  | 1, _ => rfl
  | 2, _ => rfl
  | 3, _ => rfl
  | 4, _ => rfl
theorem round (s : BitVec 64) (i k : Nat) (b0 b1 b2 b3 b4 b5 : Int) (j : Nat) (hj : j < 5)
    (h : Ev (fun n => symbolonlaw11_TripleMasks.l0 n (un s) (i : Int) (k : Int) true (row5 s (BitVec.ofNat 64 i)) ((j + 1 : Nat) : Int) b0 b1 b2 b3 b4 b5) true) :
    Ev (fun n => symbolonlaw11_TripleMasks.l0 n (un s) (i : Int) (k : Int) true (row5 s (BitVec.ofNat 64 i)) (j : Int) b0 b1 b2 b3 b4 b5) true := by
  refine Ev.step (f := fun n => (symbolonref09_Back.f n (un s) (un (mj s (BitVec.ofNat 64 i) j))).bind fun t => if t = un (p5 (BitVec.ofNat 64 i) + BitVec.ofNat 64 j) then symbolonlaw11_TripleMasks.l0 n (un s) (i : Int) (k : Int) true (row5 s (BitVec.ofNat 64 i)) ((j + 1 : Nat) : Int) b0 b1 b2 b3 b4 b5 else some false) ?_ ?_
  · intro n
    have h5 : IntKind.u64.wrap (5 * un (BitVec.ofNat 64 i)) = un (p5 (BitVec.ofNat 64 i)) := un_mul 5#64 _
    simp only [symbolonlaw11_TripleMasks.l0]
    rw [if_pos (by omega), if_pos (by omega), if_pos (by show (j : Int) < 5; omega), rd_row5 s _ j hj, wrap_nat, wrap_nat, h5, un_add, w64_succ (by omega)]
  · refine Ev.bind (ref_Back_ev s _) ?_
    unfold mj
    rw [bk_nb]
    simp only [if_true]
    exact h
theorem TripleMasks : symbolonlaw11_TripleMasks.Pure := by
  intro a0 a1 a2 h0 h1 h2
  obtain ⟨s, rfl⟩ := un_of h0
  simp [Lit.wf, IntKind.min, IntKind.max, IntKind.signed, IntKind.bits] at h1 h2
  obtain ⟨i, rfl⟩ : ∃ x : Nat, a1 = (x : Int) := ⟨a1.toNat, by omega⟩
  obtain ⟨k, rfl⟩ : ∃ x : Nat, a2 = (x : Int) := ⟨a2.toNat, by omega⟩
  have hi : i < 4294967296 := by omega
  have hk : k < 4294967296 := by omega
  apply Ev.rounds
  unfold symbolonlaw11_TripleMasks.f
  rw [wrap_nat]
  refine Ev.bind head_ev (Ev.bind (half_ev s 0 _) (Ev.bind (half_ev s 1 _) ?_))
  have z0 : ∀ x, half s 0 x = (un (mj s x 0), un (mj s x 1), un (mj s x 2)) := by intro x; unfold half; rw [if_pos rfl, m0_mj]; rfl
  have z1 : ∀ x, half s 1 x = (un (mj s x 3), un (mj s x 4), un (m5 s x)) := by intro x; unfold half; rw [if_neg (by decide)]; rfl
  rw [z0, z1]
  refine round s i k _ _ _ _ _ _ 0 (by decide) (round s i k _ _ _ _ _ _ 1 (by decide) (round s i k _ _ _ _ _ _ 2 (by decide) (round s i k _ _ _ _ _ _ 3 (by decide) (round s i k _ _ _ _ _ _ 4 (by decide) ?_))))
  refine Ev.step (f := fun n => (triple_Half.f n (un s) 0 (un (BitVec.ofNat 64 k))).bind fun x => (triple_Half.f n (un s) 1 (un (BitVec.ofNat 64 k))).bind fun y =>
    if (un (mj s (BitVec.ofNat 64 i) 0) == x.1) == ((i : Int) == (k : Int)) then (if ((un (mj s (BitVec.ofNat 64 i) 1) == x.2.1) == ((i : Int) == (k : Int))) = true then (if ((un (mj s (BitVec.ofNat 64 i) 3) == y.1) == ((i : Int) == (k : Int))) = true then (if un (mj s (BitVec.ofNat 64 i) 0) = y.1 then some false else some (un (mj s (BitVec.ofNat 64 i) 1) != y.2.1)) else some false) else some false) else some false) ?_ ?_
  · intro n
    simp only [symbolonlaw11_TripleMasks.l0]
    rw [if_neg (by decide), wrap_nat]
    simp only [if_true]
  · refine Ev.bind (half_ev s 0 _) (Ev.bind (half_ev s 1 _) ?_)
    rw [z0, z1]
    simp only [mj_eq hi hk 0 (by decide), mj_eq hi hk 1 (by decide), mj_eq hi hk 3 (by decide), beq_self_eq_true, if_true, if_neg (mj_ne (s := s) hi hk 0 3 (by decide) (by decide) (by decide))]
    rw [bne_iff_ne.mpr (mj_ne hi hk 1 4 (by decide) (by decide) (by decide))]
    exact Ev.now _
end Go.Proofs.Ytlfjebbcmngihaa.Pure
