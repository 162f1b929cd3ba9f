/- The statements SectorTells, SectorBack, SectorApart: plain Lean. -/
import Derived.Test.YtpijdclonniibaaSecH
import Derived.Test.YtpijdclonniibaaGSectorTells
import Derived.Test.YtpijdclonniibaaGSectorBack
import Derived.Test.YtpijdclonniibaaGSectorApart
set_option linter.unusedVariables false
set_option linter.unusedSimpArgs false
namespace Go.Proofs.Ytpijdclonniibaa
open Go Go.RowKit
theorem pure_SectorTells (a0 : api_Sector) (a1 : List Int) (g0 : good_api_Sector a0) (g1 : a1.length ≤ maxLen ∧ ∀ y ∈ a1, 0 ≤ y ∧ y < 256) : law16_SectorTells_f a0 a1 = some true := by
  unfold law16_SectorTells_f
  have hb0 : Bytes a0.Body := g0.2.2.2.2.2
  have hb1 : Bytes a1 := g1.2
  simp only [head16, Option.bind_some, Get_run hb1, ref_Get_run hb1, Right_run, ref_Right_run, Put_run a0 hb0, ref_Put_run a0 hb0, Same_run, if_true, beq_self_eq_true, decide_true]
  split
  · rfl
  · split <;> rfl
theorem pure_SectorBack (a0 : api_Sector) (a1 : List Int) (g0 : good_api_Sector a0) (g1 : a1.length ≤ maxLen ∧ ∀ y ∈ a1, 0 ≤ y ∧ y < 256) : law16_SectorBack_f a0 a1 = some true := by
  unfold law16_SectorBack_f
  have hb0 : Bytes a0.Body := g0.2.2.2.2.2
  have hb1 : Bytes a1 := g1.2
  simp only [head16, Option.bind_some, Put_run a0 hb0, Get_run (putOf_bytes hb0), dec_put hb0, Right_run, Same_run, Get_run hb1]
  split
  · rfl
  split
  · rfl
  by_cases h : RtP a0
  · have hl : (putOf a0).length = 64 := by rw [putOf_len, if_pos h]
    simp only [if_pos h, decide_eq_true h, decide_true, bne_self_eq_false, Bool.false_eq_true, if_false, if_true, hl, Option.bind_some]
    rw [if_neg (by decide)]
    simp only [Option.bind_some, Bool.false_eq_true, if_false]
    by_cases h2 : (dec a1).2 = true
    · obtain ⟨k1, k2⟩ := dec_true h2
      simp only [h2, if_true, k2, Right_run, Option.bind_some, decide_eq_true k1.2.1, Put_run _ (parse_bytes hb1), putOf, if_pos k1.2.1, k1.2.2, decide_true]
    · obtain ⟨k1, k2⟩ := dec_false (by simpa using h2)
      simp only [show (dec a1).2 = false by simpa using h2, Bool.false_eq_true, if_false, k2, Option.bind_some, zSec, decide_true]
  · have hl : (putOf a0).length = 0 := by rw [putOf_len, if_neg h]
    simp only [if_neg h, decide_eq_false h, bne_self_eq_false, Bool.false_eq_true, if_false, hl, Option.bind_some, Int.natCast_zero, ne_eq, not_true_eq_false, decide_false, if_true]
    by_cases h2 : (dec a1).2 = true
    · obtain ⟨k1, k2⟩ := dec_true h2
      simp only [h2, if_true, k2, Right_run, Option.bind_some, decide_eq_true k1.2.1, Put_run _ (parse_bytes hb1), putOf, if_pos k1.2.1, k1.2.2, decide_true]
    · obtain ⟨k1, k2⟩ := dec_false (by simpa using h2)
      simp only [show (dec a1).2 = false by simpa using h2, Bool.false_eq_true, if_false, k2, Option.bind_some, zSec, decide_true]
theorem enc_inj {a b : api_Sector} (ha : RtP a) (hb : RtP b) (ba : Bytes a.Body) (bb : Bytes b.Body) (h : enc a = enc b) : a = b := by
  have := parse_enc ha ba
  rw [h, parse_enc hb bb] at this
  exact this.symm
theorem pure_SectorApart (a0 a1 : api_Sector) (g0 : good_api_Sector a0) (g1 : good_api_Sector a1) : law16_SectorApart_f a0 a1 = some true := by
  unfold law16_SectorApart_f
  have hb0 : Bytes a0.Body := g0.2.2.2.2.2
  have hb1 : Bytes a1.Body := g1.2.2.2.2.2
  simp only [head16, Option.bind_some, Put_run a0 hb0, Put_run a1 hb1, Right_run, Same_run, putOf_len, if_true]
  split
  · rfl
  split
  · rfl
  by_cases h0 : RtP a0 <;> by_cases h1 : RtP a1
  · simp only [if_pos h0, if_pos h1, putOf]
    rw [if_neg (by decide), if_neg (by decide)]
    by_cases he : a0 = a1
    · subst he; simp
    · have : enc a0 ≠ enc a1 := fun h => he (enc_inj h0 h1 hb0 hb1 h)
      simp [he, this]
  · simp [if_pos h0, if_neg h1, h0, h1]
  · simp [if_neg h0, if_pos h1, h0, h1]
  · simp [if_neg h0, if_neg h1, h0, h1]
end Go.Proofs.Ytpijdclonniibaa
