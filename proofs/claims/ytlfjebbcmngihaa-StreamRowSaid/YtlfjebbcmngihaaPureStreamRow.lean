/- A row is its parts, wherever it is cut, each number stands in its place, and too many or none are none: for every seed, beginning, length and cut. -/
import Derived.Test.YtlfjebbcmngihaaStreamHead
namespace Go.Proofs.Ytlfjebbcmngihaa.Pure
open Go Go.RowKit Go.Proofs.Ytlfjebbcmngihaa.PSt Go.Proofs.YtlfjebbcmngihaaW.PrintWords Go.Proofs.YtlfjebbcmngihaaW.PrintLast Go.Proofs.YtlfjebbcmngihaaW.PrintMore Go.Proofs.Ytlfjebbcmngihaa.U64 Go.Proofs.Ytlfjebbcmngihaa.StreamBase
theorem law_l0 (s f : BitVec 64) (n : Nat) (hn : n ≤ 4096) (a b : List Int) (hab : a ++ b = rowL s f n) (d : Nat) : ∀ (j k : Nat), j + d = n → n + d + 3 ≤ k →
    symbolonlaw09_StreamRow.l0 k (un s) (un f) true (n : Int) (rowL s f n) a b (j : Int) = some true := by
  have hl : a.length + b.length = n := by rw [← List.length_append, hab, rowL_length]
  induction d with
  | zero =>
    intro j k hj hk
    obtain ⟨m, rfl⟩ : ∃ m, k = m + 1 := ⟨k - 1, by omega⟩
    simp only [symbolonlaw09_StreamRow.l0]
    rw [if_neg (by omega)]
    simp only [if_true, Option.bind_some, List.nil_append, List.length_nil, Nat.zero_add]
    rw [if_pos (by omega), if_pos (by omega), hab]
    unfold symbolonref01_Same.f
    rw [if_pos rfl]
    have h0 := same_l0 (rowL s f n) (rowL s f n) rfl (by rw [rowL_length]; omega) n 0 m (by rw [rowL_length]; omega) (by omega)
    rw [show (0 : Int) = ((0 : Nat) : Int) from rfl, h0]
    simp
  | succ d ih =>
    intro j k hj hk
    obtain ⟨m, rfl⟩ : ∃ m, k = m + 3 := ⟨k - 3, by omega⟩
    simp only [symbolonlaw09_StreamRow.l0]
    rw [if_pos (by omega), if_pos (by omega), if_pos (by rw [rowL_length]; omega), wrap_nat, un_add, number_at, Option.bind_some, if_pos (rd_rowL s f n j (by omega)), w64_succ (by omega)]
    exact ih (j + 1) (m + 2) (by omega) (by omega)
theorem StreamRow : symbolonlaw09_StreamRow.Pure := by
  intro a0 a1 a2 a3 h0 h1 h2 h3
  obtain ⟨s, rfl⟩ := un_of h0
  obtain ⟨f, rfl⟩ := un_of h1
  simp [Lit.wf, IntKind.min, IntKind.max, IntKind.signed, IntKind.bits] at h2 h3
  obtain ⟨x, rfl⟩ : ∃ x : Nat, a2 = (x : Int) := ⟨a2.toNat, by omega⟩
  obtain ⟨y, rfl⟩ : ∃ y : Nat, a3 = (y : Int) := ⟨a3.toNat, by omega⟩
  apply Ev.rounds
  unfold symbolonlaw09_StreamRow.f
  have e1 : Int.tmod (wrap64 (x : Int)) 5000 = ((x % 5000 : Nat) : Int) := by
    rw [show wrap64 (x : Int) = (x : Int) by unfold wrap64; omega]
    exact (Int.ofNat_tmod x 5000).symm
  obtain ⟨n, hn⟩ : ∃ n, x % 5000 = n := ⟨_, rfl⟩
  have hn5 : n < 5000 := by omega
  have e2 : wrap64 ((n : Int) + 1) = ((n + 1 : Nat) : Int) := w64_succ (by omega)
  have e3 : Int.tmod (wrap64 (y : Int)) ((n + 1 : Nat) : Int) = ((y % (n + 1) : Nat) : Int) := by
    rw [show wrap64 (y : Int) = (y : Int) by unfold wrap64; omega]
    exact (Int.ofNat_tmod y (n + 1)).symm
  obtain ⟨c, hc⟩ : ∃ c, y % (n + 1) = c := ⟨_, rfl⟩
  have hcn : c ≤ n := by have := Nat.mod_lt y (show 0 < n + 1 by omega); omega
  have e4 : wrap64 ((n : Int) - (c : Int)) = ((n - c : Nat) : Int) := by unfold wrap64; omega
  rw [e1, hn, e2, e3, hc, e4, wrap_nat, un_add]
  refine Ev.bind head_ev (Ev.bind (row_any s f _) ?_)
  by_cases hbig : n > 4096
  · have c1 : (n : Int) > 4096 := by omega
    have : rowI s f (n : Int) = [] := by unfold rowI; rw [if_pos (by omega)]
    rw [this]
    simp only [if_pos c1, if_true]
    exact Ev.now _
  · rw [rowI_le s f n (by omega), rowL_length]
    have c1 : ¬ ((n : Int) > 4096) := by omega
    have c2 : ¬ (((n + 1 : Nat) : Int) = 0) := by omega
    simp only [if_neg c1, if_neg c2, if_true]
    refine Ev.bind (row_any s f _) (Ev.bind (row_any s _ _) ?_)
    rw [rowI_le s f c (by omega), rowI_le s _ (n - c) (by omega)]
    refine ⟨n + n + 3, fun k hk => ?_⟩
    refine law_l0 s f n (by omega) _ _ ?_ n 0 k (by omega) (by omega)
    rw [← rowL_add]
    congr 1
    omega
end Go.Proofs.Ytlfjebbcmngihaa.Pure
