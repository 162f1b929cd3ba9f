/- Regions, plain: Put. -/
import Derived.Test.YtpmkpiffbdcflaaRegF
set_option linter.unusedVariables false
set_option linter.unusedSimpArgs false
namespace Go.Proofs.Ytpmkpiffbdcflaa
open Go Go.RowKit
/-- What Put answers. -/
def putV (d : disk_Disk) (a lim : Int) (r : api_Region) (e : List Int) : Int × disk_Disk :=
  if ¬ enOk e ∨ r.Gen < 1 ∨ r.Gen > 281474976710656 ∨ ¬ stOk r.State ∨ (r.Kept.length : Int) > 1000 then (1, d) else
    if (nparts r.State : Int) + (r.Kept.length : Int) + (r.More.length : Int) ≥ lim then (5, d) else
      wr d (a + ((nparts r.State : Int) + (r.Kept.length : Int) + (r.More.length : Int))) (putOf ⟨r.Gen, (nparts r.State : Int) + (r.Kept.length : Int) + (r.More.length : Int), (nparts r.State : Int), (r.Kept.length : Int), e⟩)
theorem put_eq {a lim : Int} (ha : -4611686018427387904 ≤ a ∧ a < 4611686018427387904) {r : api_Region} (hm : r.More.length ≤ 1000000) {e : List Int} (he : Bytes e) {d : disk_Disk} (hp : d.pending.length ≤ 1000000) : region_Put_f d a lim r e = some (putV d a lim r e) := by
  unfold region_Put_f putV
  rw [entry_eq]
  dsimp only [Option.bind_some]
  by_cases c0 : enOk e
  · rw [if_pos (decide_eq_true c0)]
    by_cases c1 : r.Gen < 1
    · rw [if_pos c1, if_pos (.inr (.inl c1))]
    · rw [if_neg c1]
      by_cases c2 : r.Gen > 281474976710656
      · rw [if_pos c2, if_pos (.inr (.inr (.inl c2)))]
      · rw [if_neg c2, state_eq]
        dsimp only [Option.bind_some]
        by_cases c3 : stOk r.State
        · rw [if_pos (decide_eq_true c3)]
          by_cases c4 : (r.Kept.length : Int) > 1000
          · rw [if_pos c4, if_pos (.inr (.inr (.inr (.inr c4))))]
          · have c6 : ¬ (¬ enOk e ∨ r.Gen < 1 ∨ r.Gen > 281474976710656 ∨ ¬ stOk r.State ∨ (r.Kept.length : Int) > 1000) := by
              rintro (h | h | h | h | h)
              · exact h c0
              · exact c1 h
              · exact c2 h
              · exact h c3
              · exact c4 h
            have hP : nparts r.State ≤ 32 := by obtain ⟨h1, h2⟩ := c3; unfold nparts; omega
            rw [if_neg c4, if_neg c6, parts_eq c3]
            dsimp only [Option.bind_some]
            rw [w64 (x := (nparts r.State : Int) + (r.Kept.length : Int)) (by omega) (by omega), w64 (x := (nparts r.State : Int) + (r.Kept.length : Int) + (r.More.length : Int)) (by omega) (by omega)]
            by_cases c7 : (nparts r.State : Int) + (r.Kept.length : Int) + (r.More.length : Int) ≥ lim
            · rw [if_pos c7, if_pos c7]
            · rw [if_neg c7, if_neg c7, Put_run _ he]
              dsimp only [Option.bind_some]
              rw [w64 (by omega) (by omega), write_eq _ _ _ hp]
              rfl
        · rw [if_neg (by simpa using c3), if_pos (.inr (.inr (.inr (.inl c3))))]
  · rw [if_neg (by simpa using c0), if_pos (.inl c0)]
theorem putV_wf {n : Nat} {d : disk_Disk} (W : WFd n d) (a lim : Int) (r : api_Region) (e : List Int) : WFd n (putV d a lim r e).2 ∧ (putV d a lim r e).2.pending.length ≤ d.pending.length + 1 := by
  unfold putV
  by_cases c1 : ¬ enOk e ∨ r.Gen < 1 ∨ r.Gen > 281474976710656 ∨ ¬ stOk r.State ∨ (r.Kept.length : Int) > 1000
  · rw [if_pos c1]; exact ⟨W, Nat.le_succ _⟩
  · rw [if_neg c1]
    by_cases c2 : (nparts r.State : Int) + (r.Kept.length : Int) + (r.More.length : Int) ≥ lim
    · rw [if_pos c2]; exact ⟨W, Nat.le_succ _⟩
    · rw [if_neg c2]; exact W.wr _ _
theorem layW_wf {n : Nat} (a : Int) : ∀ (xs : List (List Int)) (p : Nat) {d : disk_Disk}, WFd n d → WFd n (layW a p d xs).2 ∧ (layW a p d xs).2.pending.length ≤ d.pending.length + xs.length
  | [], _, _, W => ⟨W, Nat.le_refl _⟩
  | x :: xs, p, d, W => by
    have Ww := W.wr (a + (p : Int)) x
    rw [layW_cons]
    by_cases c : (wr d (a + (p : Int)) x).1 ≠ 0
    · rw [if_pos c]; exact ⟨Ww.1, by have := Ww.2; simp only [List.length_cons]; omega⟩
    · rw [if_neg c]
      have h := layW_wf a xs (p + 1) Ww.1
      exact ⟨h.1, by have := h.2; have := Ww.2; simp only [List.length_cons]; omega⟩
end Go.Proofs.Ytpmkpiffbdcflaa
