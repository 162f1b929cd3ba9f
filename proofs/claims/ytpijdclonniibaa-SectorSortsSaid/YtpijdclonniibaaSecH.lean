/- The live question of the sectors' statements; likeness: plain Lean. -/
import Derived.Test.YtpijdclonniibaaSecG
import Derived.Test.YtpijdclonniibaaGL
import Derived.Test.YtpijdclonniibaaReads
set_option linter.unusedVariables false
set_option linter.unusedSimpArgs false
namespace Go.Proofs.Ytpijdclonniibaa
open Go Go.RowKit
theorem head16 : law16_head_f = some true := by decide +kernel
theorem Same_run (a b : api_Sector) : ref16_Same_f a b = some (decide (a = b)) := by
  obtain ⟨a1, a2, a3, a4, a5⟩ := a
  obtain ⟨b1, b2, b3, b4, b5⟩ := b
  unfold ref16_Same_f
  by_cases c1 : a1 = b1
  · by_cases c2 : a2 = b2
    · by_cases c3 : a3 = b3
      · by_cases c4 : a4 = b4
        · by_cases c5 : a5 = b5 <;> simp [c1, c2, c3, c4, c5]
        · simp [c1, c2, c3, c4]
      · simp [c1, c2, c3]
    · simp [c1, c2]
  · simp [c1]
theorem putOf_len {s : api_Sector} : (putOf s).length = if RtP s then 64 else 0 := by
  unfold putOf
  split
  · rename_i h; exact enc_len h.2.2.2.2.2
  · rfl
theorem dec_nil : dec [] = (zSec, false) := by decide
theorem dec_put {s : api_Sector} (hb : Bytes s.Body) : dec (putOf s) = if RtP s then (s, true) else (zSec, false) := by
  unfold putOf
  by_cases h : RtP s
  · rw [if_pos h, if_pos h, dec_enc h hb]
  · rw [if_neg h, if_neg h, dec_nil]
end Go.Proofs.Ytpijdclonniibaa
