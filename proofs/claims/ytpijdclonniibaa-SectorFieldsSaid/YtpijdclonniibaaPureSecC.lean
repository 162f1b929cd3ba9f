/- The statement SectorFields: plain Lean. -/
import Derived.Test.YtpijdclonniibaaSecH
import Derived.Test.YtpijdclonniibaaGSectorFields
set_option linter.unusedVariables false
set_option linter.unusedSimpArgs false
namespace Go.Proofs.Ytpijdclonniibaa
open Go Go.RowKit
set_option maxHeartbeats 4000000 in
theorem pure_SectorFields (a0 : api_Sector) (a1 a2 a3 a4 : Int) (g0 : good_api_Sector a0) (g1 : (Lit.int .i64 a1).wf = true) (g2 : (Lit.int .i64 a2).wf = true) (g3 : (Lit.int .i64 a3).wf = true) (g4 : (Lit.int .i64 a4).wf = true) : law16_SectorFields_f a0 a1 a2 a3 a4 = some true := by
  unfold law16_SectorFields_f
  simp only [head16, Option.bind_some, Right_run, if_true]
  by_cases hbl : (a0.Body.length : Int) > 900
  · rw [if_pos hbl]
  rw [if_neg hbl]
  by_cases h : RtP a0
  · rw [decide_eq_true h, if_pos rfl]
    obtain ⟨h1, h2, h3, h4, h5⟩ := id h
    have e1 : decide (RtP (⟨a1, a0.Place, a0.Parts, a0.Kept, a0.Body⟩ : api_Sector)) = (decide (a1 ≥ 1) && decide (a1 ≤ 281474976710656)) := by
      rw [← Bool.decide_and]; exact decide_eq_decide.2 ⟨fun k => k.1, fun k => ⟨k, h2, h3, h4, h5⟩⟩
    have e2 : decide (RtP (⟨a0.Gen, a2, a0.Parts, a0.Kept, a0.Body⟩ : api_Sector)) = (decide (a2 ≥ 0) && decide (a2 ≤ 4096)) := by
      rw [← Bool.decide_and]; exact decide_eq_decide.2 ⟨fun k => k.2.1, fun k => ⟨h1, k, h3, h4, h5⟩⟩
    have e3 : decide (RtP (⟨a0.Gen, a0.Place, a3, a0.Kept, a0.Body⟩ : api_Sector)) = (decide (a3 ≥ 1) && decide (a3 ≤ 32)) := by
      rw [← Bool.decide_and]; exact decide_eq_decide.2 ⟨fun k => k.2.2.1, fun k => ⟨h1, h2, k, h4, h5⟩⟩
    have e4 : decide (RtP (⟨a0.Gen, a0.Place, a0.Parts, a4, a0.Body⟩ : api_Sector)) = (decide (a4 ≥ 0) && decide (a4 ≤ 1000)) := by
      rw [← Bool.decide_and]; exact decide_eq_decide.2 ⟨fun k => k.2.2.2.1, fun k => ⟨h1, h2, h3, k, h5⟩⟩
    rw [e1, e2, e3, e4]
    have f1 : (a0.Body.length : Int) ≥ 1 := by omega
    have f2 : (a0.Body.length : Int) ≤ 50 := by omega
    by_cases c1 : a1 ≥ 1 <;> by_cases c2 : a2 ≥ 0 <;> by_cases c3 : a3 ≥ 1 <;> by_cases c4 : a4 ≥ 0 <;>
      simp only [f1, f2, c1, c2, c3, c4, decide_true, decide_false, if_true, if_false, Bool.true_and, Bool.false_and, beq_self_eq_true, Option.bind_some]
  · rw [decide_eq_false h]
    rfl
end Go.Proofs.Ytpijdclonniibaa
