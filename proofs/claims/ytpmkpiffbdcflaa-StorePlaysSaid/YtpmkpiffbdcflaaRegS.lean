/- Regions, plain: rows are the same. -/
import Derived.Test.YtpmkpiffbdcflaaRegC
import Derived.Test.YtpmkpiffbdcflaaG1
set_option linter.unusedVariables false
set_option linter.unusedSimpArgs false
namespace Go.Proofs.Ytpmkpiffbdcflaa
open Go Go.RowKit
theorem sameRows_eq (x y : List (List Int)) (h : x.length ≤ 9223372036854775806) : ref17_SameRows_f x y = some (decide (x = y)) := by
  unfold ref17_SameRows_f
  by_cases c : (x.length : Int) ≠ (y.length : Int)
  · rw [if_pos c, decide_eq_false fun e => c (by rw [e])]
  · rw [if_neg c]
    have hl : x.length = y.length := by omega
    have key : ∃ q, lp (ref17_SameRows_b0 x y) 0 = some q ∧ ((q = .inl () ∧ x = y) ∨ (q = .inr false ∧ x ≠ y)) := by
      refine lp_run (fun k (s : Int) => s = (k : Int) ∧ x.take k = y.take k) _ x.length (by omega) ⟨rfl, rfl⟩ ?_ ?_
      · rintro k s hk ⟨rfl, ht⟩
        by_cases e : x.getD k [] = y.getD k []
        · refine .inl ⟨((k + 1 : Nat) : Int), ?_, rfl, ?_⟩
          · unfold ref17_SameRows_b0
            dsimp only
            rw [if_pos (by omega), if_pos (by omega), if_pos (by omega), Int.toNat_natCast, if_neg (not_not_intro e), w64n (by omega)]
          · rw [take_snoc hk, take_snoc (by omega : k < y.length), ht]
            rw [List.getD_eq_getElem?_getD, List.getD_eq_getElem?_getD, List.getElem?_eq_getElem hk, List.getElem?_eq_getElem (by omega : k < y.length)] at e
            simp only [Option.getD_some] at e
            rw [e]
        · refine .inr ⟨.inr false, ?_, .inr ⟨rfl, fun h => e (by rw [h])⟩⟩
          unfold ref17_SameRows_b0
          dsimp only
          rw [if_pos (by omega), if_pos (by omega), if_pos (by omega), Int.toNat_natCast, if_pos e]
      · rintro s ⟨rfl, ht⟩
        refine ⟨.inl (), ?_, .inl ⟨rfl, ?_⟩⟩
        · unfold ref17_SameRows_b0
          dsimp only
          rw [if_neg (by omega)]
        · rw [List.take_of_length_le (Nat.le_refl _), List.take_of_length_le (by omega)] at ht
          exact ht
    obtain ⟨q, h1, ⟨rfl, h2⟩ | ⟨rfl, h2⟩⟩ := key
    · rw [h1, decide_eq_true h2]; rfl
    · rw [h1, decide_eq_false h2]; rfl
end Go.Proofs.Ytpmkpiffbdcflaa
