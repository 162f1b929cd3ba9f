/- A row of triples is its parts, wherever it is cut, each half stands in its place, and too many or none are none: for every seed, party, beginning, length and cut. -/
import Derived.Test.YtlfjebbcmngihaaTripleRows
namespace Go.Proofs.Ytlfjebbcmngihaa.Pure
open Go Go.RowKit Go.Proofs.Ytlfjebbcmngihaa.PTr Go.Proofs.YtlfjebbcmngihaaW.PrintWords Go.Proofs.YtlfjebbcmngihaaW.PrintLast Go.Proofs.YtlfjebbcmngihaaW.PrintMore Go.Proofs.Ytlfjebbcmngihaa.U64 Go.Proofs.Ytlfjebbcmngihaa.TripleBase
theorem law_l0 (s : BitVec 64) (who : Int) (f : BitVec 64) (n : Nat) (hn : n ≤ 4096) (a b : List TT) (hab : a ++ b = rowT s who f n) (d : Nat) : ∀ (j k : Nat), j + d = n → n + d + 3 ≤ k →
    symbolonlaw11_TripleRow.l0 k (un s) who (un f) true (n : Int) (rowT s who f n) a b (j : Int) = some true := by
  have hl : a.length + b.length = n := by rw [← List.length_append, hab, rowT_length]
  induction d with
  | zero =>
    intro j k hj hk
    obtain ⟨m, rfl⟩ : ∃ m, k = m + 1 := ⟨k - 1, by omega⟩
    simp only [symbolonlaw11_TripleRow.l0]
    rw [if_neg (by omega)]
    simp only [if_true, Option.bind_some, List.nil_append, List.length_nil, Nat.zero_add]
    rw [if_pos (by omega), if_pos (by omega), hab]
    unfold symbolonref11_Same.f
    rw [if_pos rfl]
    have h0 := same_self_l0 (rowT s who f n) (by rw [rowT_length]; omega) n 0 m (by rw [rowT_length]; omega) (by omega)
    rw [show (0 : Int) = ((0 : Nat) : Int) from rfl, h0]
    rfl
  | succ d ih =>
    intro j k hj hk
    obtain ⟨m, rfl⟩ : ∃ m, k = m + 3 := ⟨k - 3, by omega⟩
    simp only [symbolonlaw11_TripleRow.l0]
    rw [if_pos (by omega), if_pos (by omega), if_pos (by rw [rowT_length]; omega), wrap_nat, un_add, half_at, Option.bind_some, rd_rowT s who f n j (by omega), w64_succ (by omega)]
    simp only [tr, beq_self_eq_true, Bool.not_true, Bool.or_self]
    rw [if_neg (by decide)]
    exact ih (j + 1) (m + 2) (by omega) (by omega)
theorem TripleRow : symbolonlaw11_TripleRow.Pure := by
  intro a0 a1 a2 a3 a4 h0 h1 h2 h3 h4
  obtain ⟨s, rfl⟩ := un_of h0
  obtain ⟨f, rfl⟩ := un_of h2
  simp [Lit.wf, IntKind.min, IntKind.max, IntKind.signed, IntKind.bits] at h3 h4
  obtain ⟨x, rfl⟩ : ∃ x : Nat, a3 = (x : Int) := ⟨a3.toNat, by omega⟩
  obtain ⟨y, rfl⟩ : ∃ y : Nat, a4 = (y : Int) := ⟨a4.toNat, by omega⟩
  apply Ev.rounds
  unfold symbolonlaw11_TripleRow.f
  have e1 : Int.tmod (wrap64 (x : Int)) 5000 = ((x % 5000 : Nat) : Int) := by
    rw [show wrap64 (x : Int) = (x : Int) by unfold wrap64; omega]
    exact (Int.ofNat_tmod x 5000).symm
  obtain ⟨n, hn⟩ : ∃ n, x % 5000 = n := ⟨_, rfl⟩
  have hn5 : n < 5000 := by omega
  have e2 : wrap64 ((n : Int) + 1) = ((n + 1 : Nat) : Int) := w64_succ (by omega)
  have e3 : Int.tmod (wrap64 (y : Int)) ((n + 1 : Nat) : Int) = ((y % (n + 1) : Nat) : Int) := by
    rw [show wrap64 (y : Int) = (y : Int) by unfold wrap64; omega]
    exact (Int.ofNat_tmod y (n + 1)).symm
  obtain ⟨c, hc⟩ : ∃ c, y % (n + 1) = c := ⟨_, rfl⟩
  have hcn : c ≤ n := by have := Nat.mod_lt y (show 0 < n + 1 by omega); omega
  have e4 : wrap64 ((n : Int) - (c : Int)) = ((n - c : Nat) : Int) := by unfold wrap64; omega
  rw [e1, hn, e2, e3, hc, e4, wrap_nat, un_add]
  refine Ev.bind head_ev (Ev.bind (row_any s a1 f _) ?_)
  by_cases hbig : n > 4096
  · have c1 : (n : Int) > 4096 := by omega
    have : rowTI s a1 f (n : Int) = [] := by unfold rowTI; rw [if_pos (by omega)]
    rw [this]
    simp only [if_pos c1, if_true]
    exact Ev.now _
  · rw [rowTI_le s a1 f n (by omega), rowT_length]
    have c1 : ¬ ((n : Int) > 4096) := by omega
    have c2 : ¬ (((n + 1 : Nat) : Int) = 0) := by omega
    simp only [if_neg c1, if_neg c2, if_true]
    refine Ev.bind (row_any s a1 f _) (Ev.bind (row_any s a1 _ _) ?_)
    rw [rowTI_le s a1 f c (by omega), rowTI_le s a1 _ (n - c) (by omega)]
    refine ⟨n + n + 3, fun k hk => ?_⟩
    refine law_l0 s a1 f n (by omega) _ _ ?_ n 0 k (by omega) (by omega)
    rw [← rowT_add]
    congr 1
    omega
end Go.Proofs.Ytlfjebbcmngihaa.Pure
