/- The statement RegionLays: plain Lean. -/
import Derived.Test.YtdkdaggpfgajlaaRegJ
import Derived.Test.YtdkdaggpfgajlaaReads
import Derived.Test.YtdkdaggpfgajlaaGRegionLays
set_option linter.unusedVariables false
set_option linter.unusedSimpArgs false
namespace Go.Proofs.Ytdkdaggpfgajlaa
open Go Go.RowKit
theorem within_eq (a s : Int) : law17_within_f a s = some (decide ((0 ≤ a ∧ a ≤ 4096) ∧ (0 ≤ s ∧ s ≤ 4096))) := by
  unfold law17_within_f
  by_cases c1 : a ≥ 0
  · rw [if_pos c1]
    by_cases c2 : a ≤ 4096
    · rw [if_pos c2]
      by_cases c3 : s ≥ 0
      · rw [if_pos c3]
        dsimp only [Option.bind_some]
        congr 1
        exact decide_eq_decide.2 (by omega)
      · rw [if_neg c3]
        dsimp only [Option.bind_some]
        congr 1
        exact (decide_eq_false (by omega)).symm
    · rw [if_neg c2]
      dsimp only [Option.bind_some]
      congr 1
      exact (decide_eq_false (by omega)).symm
  · rw [if_neg c1]
    dsimp only [Option.bind_some]
    congr 1
    exact (decide_eq_false (by omega)).symm
theorem pure_RegionLays (a0 a1 a2 a3 : Int) (a4 : List Int) (a5 : List (List Int)) (a6 : api_Region) (a7 : List Int) (g0 : (Lit.int .i64 a0).wf = true) (g1 : (Lit.int .i64 a1).wf = true) (g2 : (Lit.int .i64 a2).wf = true) (g3 : (Lit.int .i64 a3).wf = true) (g4 : a4.length ≤ maxLen ∧ ∀ y ∈ a4, 0 ≤ y ∧ y < 256) (g5 : a5.length ≤ maxLen ∧ ∀ y ∈ a5, y.length ≤ maxLen ∧ ∀ z ∈ y, 0 ≤ z ∧ z < 256) (g6 : good_api_Region a6) (g7 : a7.length ≤ maxLen ∧ ∀ y ∈ a7, 0 ≤ y ∧ y < 256) : law17_RegionLays_f a0 a1 a2 a3 a4 a5 a6 a7 = some true := by
  unfold law17_RegionLays_f
  rw [head17_eq]
  dsimp only [Option.bind_some]
  rw [within_eq]
  dsimp only [Option.bind_some]
  by_cases c1 : (0 ≤ a1 ∧ a1 ≤ 4096) ∧ (0 ≤ a2 ∧ a2 ≤ 4096)
  · rw [if_pos (decide_eq_true c1)]
    by_cases c2 : (a4.length : Int) > 3000
    · rw [if_pos c2]
    · rw [if_neg c2]
      obtain ⟨b1, e1, h1⟩ := rows_eq a5 g5.1
      rw [e1]
      dsimp only [Option.bind_some]
      cases b1 with
      | true => rfl
      | false =>
        rw [if_neg (by simp)]
        by_cases c3 : (a6.State.length : Int) > 3000
        · rw [if_pos c3]
        · rw [if_neg c3]
          obtain ⟨b2, e2, h2⟩ := rows_eq a6.Kept g6.2.2.1.1
          rw [e2]
          dsimp only [Option.bind_some]
          cases b2 with
          | true => rfl
          | false =>
            rw [if_neg (by simp)]
            obtain ⟨b3, e3, h3⟩ := rows_eq a6.More g6.2.2.2.1
            rw [e3]
            dsimp only [Option.bind_some]
            cases b3 with
            | true => rfl
            | false =>
              rw [if_neg (by simp)]
              by_cases c4 : (a7.length : Int) > 900
              · rw [if_pos c4]
              · rw [if_neg c4, show disk_New_f 50 = some (some (dnew 50)) from new_eq (n := 50) (by decide), show ref15_New_f 50 = some (some (rnew 50)) from rnew_eq (n := 50) (by decide)]
                have hm := h3 rfl
                have hx := wf64 g0
                have W0 : WFd 50 (fus (dnew 50) a0) := (WFd.new 50).fus hx.2
                have R0 : Rf 50 (fus (dnew 50) a0) ⟨(rnew 50).L, (rnew 50).Torn, (rnew 50).P, max a0 (-1)⟩ := ⟨(Rf.new 50).s, (Rf.new 50).p, rfl⟩
                have hf : disk_Disk_Fuse_f (dnew 50) a0 = some (fus (dnew 50) a0) := rfl
                have hr : ref15_Disk_Fuse_f (rnew 50) a0 = some ⟨(rnew 50).L, (rnew 50).Torn, (rnew 50).P, max a0 (-1)⟩ := rfl
                have hp0 : (fus (dnew 50) a0).pending.length = 0 := rfl
                dsimp only [Option.bind_some]
                rw [hf]
                dsimp only [Option.bind_some]
                rw [hr]
                dsimp only [Option.bind_some]
                generalize fus (dnew 50) a0 = d at W0 R0 hp0 ⊢
                have hsb : Bytes a4 := g4.2
                have heb : ∀ e ∈ a5, Bytes e := fun e he => (g5.2 e he).2
                obtain ⟨r1, q1, R1⟩ := rlay_eq (a := a1) (lim := a2) (gen := a3) (by omega) hsb heb R0 W0 (by omega)
                rw [lay_eq (a := a1) (by omega) hsb heb W0 (by omega), q1]
                dsimp only [Option.bind_some]
                rw [if_neg (by simp)]
                have WL : WFd 50 (layV d a1 a2 a3 a4 a5).2 ∧ (layV d a1 a2 a3 a4 a5).2.pending.length ≤ 20000 := by
                  unfold layV
                  split
                  · exact ⟨W0, by dsimp only; omega⟩
                  · rename_i hc
                    split
                    · exact ⟨W0, by dsimp only; omega⟩
                    · have := layW_wf a1 (secs a3 a4 a5) 0 W0
                      refine ⟨this.1, ?_⟩
                      have h5 := this.2
                      rw [secs_len] at h5
                      have hl5 := (h1 rfl).1
                      have : nparts a4 ≤ 3001 := by unfold nparts; omega
                      omega
                rw [show law17_alike_f _ r1 50 = some true from alike17_eq R1 WL.1 (by omega) 50 (by decide)]
                dsimp only [Option.bind_some]
                rw [if_pos rfl, if_pos rfl]
                have he7 : Bytes a7 := g7.2
                obtain ⟨r2, q2, R2⟩ := rput_eq (a := a1) (lim := a2) (by omega) (g := a6) (by omega) he7 R1 WL.1 (by omega)
                rw [put_eq (a := a1) (lim := a2) (by omega) (by omega) he7 (by omega), q2]
                dsimp only [Option.bind_some]
                rw [if_pos rfl]
                have WP := putV_wf WL.1 a1 a2 a6 a7
                rw [show law17_alike_f _ r2 50 = some true from alike17_eq R2 WP.1 (by omega) 50 (by decide)]
                rfl
  · rw [if_neg (by rw [decide_eq_true_iff]; exact c1)]
end Go.Proofs.Ytdkdaggpfgajlaa
