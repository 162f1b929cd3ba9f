/- Rows of triples: of the program and of the reference; when two are alike. -/
import Derived.Test.YtlfjebbcmngihaaTripleBase
namespace Go.Proofs.Ytlfjebbcmngihaa.TripleBase
open Go Go.RowKit Go.Proofs.Ytlfjebbcmngihaa.PTr Go.Proofs.YtlfjebbcmngihaaW.PrintWords Go.Proofs.YtlfjebbcmngihaaW.PrintLast Go.Proofs.YtlfjebbcmngihaaW.PrintMore Go.Proofs.Ytlfjebbcmngihaa.U64
abbrev TT := S25
def tr (x : Int × Int × Int) : TT := ⟨x.1, x.2.1, x.2.2⟩
def rowT (s : BitVec 64) (who : Int) (f : BitVec 64) (n : Nat) : List TT := (List.range n).map fun j => tr (half s who (f + BitVec.ofNat 64 j))
theorem rowT_succ (s : BitVec 64) (who : Int) (f : BitVec 64) (n : Nat) : rowT s who f (n + 1) = rowT s who f n ++ [tr (half s who (f + BitVec.ofNat 64 n))] := by
  unfold rowT
  rw [List.range_succ, List.map_append]
  rfl
theorem rowT_length (s : BitVec 64) (who : Int) (f : BitVec 64) (n : Nat) : (rowT s who f n).length = n := by simp [rowT]
theorem rowT_add (s : BitVec 64) (who : Int) (f : BitVec 64) (m n : Nat) : rowT s who f (m + n) = rowT s who f m ++ rowT s who (f + BitVec.ofNat 64 m) n := by
  unfold rowT
  rw [List.range_add, List.map_append, List.map_map]
  congr 1
  apply List.map_congr_left
  intro j _
  simp only [Function.comp]
  rw [BitVec.add_assoc, BitVec.ofNat_add]
theorem row_l0 (s : BitVec 64) (who : Int) (f : BitVec 64) (n : Nat) (hn : n ≤ 4096) (d : Nat) : ∀ (j k : Nat), j + d = n → d + 3 ≤ k →
    triple_Row.l0 k (un s) who (un f) (rowT s who f j ++ List.replicate d z25) (n : Int) (j : Int) = some (rowT s who f n) := by
  induction d with
  | zero =>
    intro j k hj hk
    obtain ⟨m, rfl⟩ : ∃ m, k = m + 3 := ⟨k - 3, by omega⟩
    simp only [triple_Row.l0]
    rw [if_neg (by omega)]
    simp only [List.replicate_zero, List.append_nil]
    rw [show j = n by omega]
  | succ d ih =>
    intro j k hj hk
    obtain ⟨m, rfl⟩ : ∃ m, k = m + 3 := ⟨k - 3, by omega⟩
    simp only [triple_Row.l0]
    rw [if_pos (by omega), wrap_nat, un_add, half_at, Option.bind_some, if_pos (by omega), if_pos (by simp [rowT_length]; omega)]
    rw [List.replicate_succ, set_at _ _ _ _ _ (by rw [rowT_length]; omega)]
    have h := rowT_succ s who f j
    unfold tr at h
    rw [← h, w64_succ (by omega)]
    exact ih (j + 1) (m + 2) (by omega) (by omega)
/-- The row of so many, whatever the number. -/
def rowTI (s : BitVec 64) (who : Int) (f : BitVec 64) (n : Int) : List TT := if n < 1 ∨ 4096 < n then [] else rowT s who f n.toNat
theorem row_any (s : BitVec 64) (who : Int) (f : BitVec 64) (n : Int) : Ev (fun k => triple_Row.f k (un s) who (un f) n) (rowTI s who f n) := by
  unfold rowTI
  by_cases h : n < 1 ∨ 4096 < n
  · rw [if_pos h]
    refine ⟨1, fun k hk => ?_⟩
    obtain ⟨m, rfl⟩ : ∃ m, k = m + 1 := ⟨k - 1, by omega⟩
    unfold triple_Row.f
    show (if n < 1 then _ else _) = _
    by_cases h1 : n < 1
    · rw [if_pos h1]
      simp only [triple_Row.j0]
      rfl
    · rw [if_neg h1, decide_eq_true (show n > 4096 by omega)]
      simp only [triple_Row.j0]
      rfl
  · rw [if_neg h]
    obtain ⟨c, rfl⟩ : ∃ c : Nat, n = (c : Int) := ⟨n.toNat, by omega⟩
    refine ⟨c + 4, fun k hk => ?_⟩
    obtain ⟨m, rfl⟩ : ∃ m, k = m + 1 := ⟨k - 1, by omega⟩
    unfold triple_Row.f
    show (if (c : Int) < 1 then _ else _) = _
    rw [if_neg (by omega)]
    simp only [triple_Row.j0]
    rw [if_neg (by simp; omega), if_pos (by omega), if_pos (by omega)]
    have := row_l0 s who f c (by omega) c 0 m (by omega) (by omega)
    simpa [rowT] using this
theorem ref_row_l0 (s : BitVec 64) (who : Int) (f : BitVec 64) (n : Nat) (hn : n ≤ 4096) (d : Nat) : ∀ (j k : Nat), j + d = n → d + 1 ≤ k →
    symbolonref11_Row.l0 k (un s) who (un f) (n : Int) (rowT s who f j) (j : Int) = some (rowT s who f n) := by
  induction d with
  | zero =>
    intro j k hj hk
    obtain ⟨m, rfl⟩ : ∃ m, k = m + 1 := ⟨k - 1, by omega⟩
    simp only [symbolonref11_Row.l0]
    rw [if_neg (by omega), show j = n by omega]
  | succ d ih =>
    intro j k hj hk
    obtain ⟨m, rfl⟩ : ∃ m, k = m + 1 := ⟨k - 1, by omega⟩
    simp only [symbolonref11_Row.l0]
    rw [if_pos (by omega), if_pos (by omega), wrap_nat, un_add, ref_half, Option.bind_some, if_pos (by rw [rowT_length]; omega)]
    have h := rowT_succ s who f j
    unfold tr at h
    rw [← h, w64_succ (by omega)]
    exact ih (j + 1) m (by omega) (by omega)
theorem ref_row_ev (s : BitVec 64) (who : Int) (f : BitVec 64) (n : Int) : Ev (fun k => symbolonref11_Row.f k (un s) who (un f) n) (rowTI s who f n) := by
  unfold rowTI
  by_cases h : n < 1 ∨ 4096 < n
  · rw [if_pos h]
    refine ⟨1, fun k hk => ?_⟩
    obtain ⟨m, rfl⟩ : ∃ m, k = m + 1 := ⟨k - 1, by omega⟩
    unfold symbolonref11_Row.f
    simp only [symbolonref11_Row.l0]
    by_cases h1 : 0 < n
    · rw [if_pos h1, if_neg (by omega)]
    · rw [if_neg h1]
  · rw [if_neg h]
    refine ⟨n.toNat + 1, fun k hk => ?_⟩
    have := ref_row_l0 s who f n.toNat (by omega) n.toNat 0 k (by omega) (by omega)
    rw [show ((n.toNat : Nat) : Int) = n by omega] at this
    exact this
theorem rowTI_le (s : BitVec 64) (who : Int) (f : BitVec 64) (n : Nat) (h : n ≤ 4096) : rowTI s who f (n : Int) = rowT s who f n := by
  unfold rowTI
  by_cases h0 : n = 0
  · subst h0
    rfl
  · rw [if_neg (by omega), Int.toNat_natCast]
theorem rowTI_length_le (s : BitVec 64) (who : Int) (f : BitVec 64) (n : Int) : (rowTI s who f n).length ≤ 4096 := by
  unfold rowTI
  split
  · simp
  · rw [rowT_length]; omega
theorem rd_rowT (s : BitVec 64) (who : Int) (f : BitVec 64) (n j : Nat) (h : j < n) : rd_T25 (rowT s who f n) (j : Int) = tr (half s who (f + BitVec.ofNat 64 j)) := by
  unfold rd_T25 rowT
  rw [Int.toNat_natCast, List.getD_eq_getElem?_getD, List.getElem?_map, List.getElem?_range h]
  rfl
theorem same_self_l0 (a : List TT) (hn : a.length < 4611686018427387904) (d : Nat) : ∀ (j k : Nat), j + d = a.length → d + 1 ≤ k → symbolonref11_Same.l0 k a a (j : Int) = some true := by
  induction d with
  | zero =>
    intro j k hj hk
    obtain ⟨m, rfl⟩ : ∃ m, k = m + 1 := ⟨k - 1, by omega⟩
    simp only [symbolonref11_Same.l0]
    rw [if_neg (by omega)]
  | succ d ih =>
    intro j k hj hk
    obtain ⟨m, rfl⟩ : ∃ m, k = m + 1 := ⟨k - 1, by omega⟩
    simp only [symbolonref11_Same.l0]
    rw [if_pos (by omega), if_pos (by omega), if_pos (by omega), w64_succ (by omega), ih (j + 1) m (by omega) (by omega)]
    simp
theorem same_self (a : List TT) (hn : a.length < 4611686018427387904) : Ev (fun k => symbolonref11_Same.f k a a) true := by
  refine ⟨a.length + 1, fun k hk => ?_⟩
  unfold symbolonref11_Same.f
  show (if (a.length : Int) = (a.length : Int) then _ else _) = _
  rw [if_pos rfl]
  exact same_self_l0 a hn a.length 0 k (by omega) (by omega)
end Go.Proofs.Ytlfjebbcmngihaa.TripleBase
