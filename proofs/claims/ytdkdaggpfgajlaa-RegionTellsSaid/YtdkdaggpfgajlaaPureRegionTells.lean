/- The statement RegionTells: plain Lean. -/
import Derived.Test.YtdkdaggpfgajlaaRegJ
import Derived.Test.YtdkdaggpfgajlaaReads
import Derived.Test.YtdkdaggpfgajlaaGRegionTells
set_option linter.unusedVariables false
set_option linter.unusedSimpArgs false
namespace Go.Proofs.Ytdkdaggpfgajlaa
open Go Go.RowKit
theorem within_eq (a s : Int) : law17_within_f a s = some (decide ((0 ≤ a ∧ a ≤ 4096) ∧ (0 ≤ s ∧ s ≤ 4096))) := by
  unfold law17_within_f
  by_cases c1 : a ≥ 0
  · rw [if_pos c1]
    by_cases c2 : a ≤ 4096
    · rw [if_pos c2]
      by_cases c3 : s ≥ 0
      · rw [if_pos c3]
        dsimp only [Option.bind_some]
        congr 1
        exact decide_eq_decide.2 (by omega)
      · rw [if_neg c3]
        dsimp only [Option.bind_some]
        congr 1
        exact (decide_eq_false (by omega)).symm
    · rw [if_neg c2]
      dsimp only [Option.bind_some]
      congr 1
      exact (decide_eq_false (by omega)).symm
  · rw [if_neg c1]
    dsimp only [Option.bind_some]
    congr 1
    exact (decide_eq_false (by omega)).symm
abbrev SE0 : api_Sector := ⟨0, 0, 0, 0, []⟩
theorem tells_b0 (a : List api_Sector) (ha : a.length ≤ maxLen) : ∃ r, lp (law17_RegionTells_b0 a) ((a.length : Int), 0) = some r := by
  have hm : maxLen ≤ 9223372036854775807 := by decide
  have key : ∃ r, lp (law17_RegionTells_b0 a) ((a.length : Int), 0) = some r ∧ True := by
    refine lp_run (fun k (s : Int × Int) => s.2 = (k : Int)) _ a.length (by omega) rfl ?_ ?_
    · rintro k ⟨x, y⟩ hk hy
      dsimp only at hy
      subst hy
      by_cases c : x < 9000
      · refine .inl ⟨(IntKind.i64.wrap (x + (min (((a.getD (k : Int).toNat SE0).Body).length : Int) 9000)), ((k + 1 : Nat) : Int)), ?_, rfl⟩
        unfold law17_RegionTells_b0
        dsimp only
        rw [if_pos (by omega)]
        dsimp only [Option.bind_some]
        rw [if_pos (decide_eq_true c), if_pos (by omega), w64n (by omega)]
      · refine .inr ⟨x, ?_, trivial⟩
        unfold law17_RegionTells_b0
        dsimp only
        rw [if_pos (by omega)]
        dsimp only [Option.bind_some]
        rw [if_neg (by simpa using c)]
    · rintro ⟨x, y⟩ hy
      dsimp only at hy
      subst hy
      refine ⟨x, ?_, trivial⟩
      unfold law17_RegionTells_b0
      dsimp only
      rw [if_neg (by omega)]
      rfl
  obtain ⟨r, h, _⟩ := key
  exact ⟨r, h⟩
theorem tells_b1 (a : List api_Sector) (b : List Int) (ha : a.length ≤ 60) (hb : b.length ≤ maxLen) (hB : ∀ y ∈ b, 0 ≤ y ∧ y < 256) (hS : ∀ y ∈ a, good_api_Sector y) : ∃ x, lp (law17_RegionTells_b1 a b) (0, dnew 60, rnew 60) = some x ∧ WFd 60 x.1 ∧ x.1.pending.length ≤ 60 ∧ Rf 60 x.1 x.2 := by
  obtain ⟨N, hN⟩ : ∃ N : Nat, N = min a.length b.length := ⟨_, rfl⟩
  refine lp_all (fun k (s : Int × disk_Disk × ref15_Disk) => s.1 = (k : Int) ∧ WFd 60 s.2.1 ∧ s.2.1.pending.length ≤ k ∧ Rf 60 s.2.1 s.2.2) _ N (by omega) ⟨rfl, WFd.new 60, Nat.zero_le _, Rf.new 60⟩ ?_ ?_
  · rintro k ⟨x, d, r⟩ hk ⟨hx, W, hp, R⟩
    dsimp only at hx W hp R
    subst hx
    have hka : k < a.length := by omega
    have hkb : k < b.length := by omega
    have gs := hS _ (getD_mem hka SE0)
    have gb := hB _ (getD_mem hkb 0)
    have hbb : Bytes (a.getD k SE0).Body := gs.2.2.2.2.2
    obtain ⟨at_, hat⟩ : ∃ z : Int, z = if b.getD k 0 > 0 then b.getD k 0 else (a.getD k SE0).Place := ⟨_, rfl⟩
    obtain ⟨r', h1, R'⟩ := rwrite_eq R W (by omega) at_ (b := putOf (a.getD k SE0)) (putOf_bytes hbb)
    have W2 := W.wr at_ (putOf (a.getD k SE0))
    refine ⟨(((k + 1 : Nat) : Int), (wr d at_ (putOf (a.getD k SE0))).2, r'), ?_, rfl, W2.1, by have := W2.2; dsimp only; omega, R'⟩
    unfold law17_RegionTells_b1
    dsimp only
    rw [if_pos (by omega)]
    dsimp only [Option.bind_some]
    rw [if_pos (decide_eq_true (by omega)), if_pos (by omega), if_pos (by omega), Int.toNat_natCast]
    have e : ((if b.getD k 0 > 0 then (if 0 ≤ (k : Int) ∧ (k : Int) < (b.length : Int) then some ((IntKind.i64.wrap (b.getD k 0))) else none) else some (((a.getD k SE0)).Place)) : Option Int) = some at_ := by
      rw [hat]
      by_cases c : b.getD k 0 > 0
      · rw [if_pos c, if_pos (by omega), if_pos c, w64 (by omega) (by omega)]
      · rw [if_neg c, if_neg c]
    rw [e]
    dsimp only [Option.bind_some]
    rw [if_pos (by omega), ref_Put_run _ hbb]
    dsimp only [Option.bind_some]
    rw [write_eq _ _ _ (by omega)]
    dsimp only [Option.bind_some]
    rw [h1, w64n (by omega), if_pos (by omega)]
    rfl
  · rintro ⟨x, d, r⟩ ⟨hx, W, hp, R⟩
    dsimp only at hx W hp R
    subst hx
    refine ⟨(d, r), ?_, W, by dsimp only; omega, R⟩
    unfold law17_RegionTells_b1
    dsimp only
    by_cases c : (N : Int) < (a.length : Int)
    · rw [if_pos c]
      dsimp only [Option.bind_some]
      rw [if_neg (by simp; omega)]
    · rw [if_neg c]
      dsimp only [Option.bind_some]
      rw [if_neg (by simp)]
theorem tells_b2 : lp law17_RegionTells_b2 (List.replicate (60 : Int).toNat false, 0) = some (List.replicate 60 true) := by decide +kernel
theorem pure_RegionTells (a0 : List api_Sector) (a1 : List Int) (a2 a3 a4 : Int) (g0 : a0.length ≤ maxLen ∧ ∀ y ∈ a0, good_api_Sector y) (g1 : a1.length ≤ maxLen ∧ ∀ y ∈ a1, 0 ≤ y ∧ y < 256) (g2 : (Lit.int .i64 a2).wf = true) (g3 : (Lit.int .i64 a3).wf = true) (g4 : (Lit.int .i64 a4).wf = true) : law17_RegionTells_f a0 a1 a2 a3 a4 = some true := by
  unfold law17_RegionTells_f
  rw [head17_eq]
  dsimp only [Option.bind_some]
  obtain ⟨r0, e0⟩ := tells_b0 a0 g0.1
  rw [e0]
  dsimp only [Option.bind_some]
  by_cases c1 : r0 ≥ 9000
  · rw [if_pos c1]
  · rw [if_neg c1]
    by_cases c2 : (a0.length : Int) > 60
    · rw [if_pos c2]
    · rw [if_neg c2, within_eq]
      dsimp only [Option.bind_some]
      by_cases c3 : (0 ≤ a3 ∧ a3 ≤ 4096) ∧ (0 ≤ a4 ∧ a4 ≤ 4096)
      · rw [if_pos (decide_eq_true c3), show disk_New_f 60 = some (some (dnew 60)) from new_eq (n := 60) (by decide), show ref15_New_f 60 = some (some (rnew 60)) from rnew_eq (n := 60) (by decide)]
        dsimp only [Option.bind_some]
        obtain ⟨⟨d, r⟩, e1, W, hp, R⟩ := tells_b1 a0 a1 (by omega) g1.1 g1.2 g0.2
        dsimp only at W hp R
        rw [e1]
        dsimp only [Option.bind_some]
        rw [if_pos (by decide), tells_b2]
        dsimp only [Option.bind_some]
        obtain ⟨r', e2, R'⟩ := rcrash_eq R W (by omega) (List.replicate 60 true) a2
        rw [crash_eq W (by omega), e2]
        dsimp only [Option.bind_some]
        have W' := W.cra (List.replicate 60 true) a2
        have hp' : (cra d (List.replicate 60 true) a2).pending.length ≤ 1000000 := Nat.zero_le _
        generalize cra d (List.replicate 60 true) a2 = e at W' hp' R' ⊢
        rw [region_read_eq W' (by decide) (by omega), rread17_eq R' W' hp' (by decide)]
        dsimp only [Option.bind_some]
        have hl : (rdR (fa (rdv e) a3 a4) a4).1.Kept.length ≤ 9223372036854775806 ∧ (rdR (fa (rdv e) a3 a4) a4).1.More.length ≤ 9223372036854775806 := by
          unfold rdR
          cases fa (rdv e) a3 a4 0 with
          | none => exact ⟨Nat.zero_le _, Nat.zero_le _⟩
          | some h =>
            dsimp only
            have hl := rows_le (fa (rdv e) a3 a4) h 5000 0
            by_cases d1 : h.Parts + h.Kept > a4
            · rw [if_pos d1]; exact ⟨Nat.zero_le _, Nat.zero_le _⟩
            · rw [if_neg d1]
              split
              · exact ⟨Nat.zero_le _, Nat.zero_le _⟩
              · unfold regOf
                simp only [List.length_drop, List.length_take]
                omega
        rw [if_pos rfl, same_eq _ _ hl.1 hl.2, decide_eq_true rfl]
        dsimp only [Option.bind_some]
        rw [if_pos rfl, if_pos (by simp), greatest_eq W' (by decide) (by omega), rgreatest_eq R' W' hp' (by decide)]
        simp
      · rw [if_neg (by rw [decide_eq_true_iff]; exact c3)]
end Go.Proofs.Ytdkdaggpfgajlaa
