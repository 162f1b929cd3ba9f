/- Sectors, plain: the document's Put. -/
import Derived.Test.YtpmkpiffbdcflaaSec
import Derived.Test.YtpmkpiffbdcflaaGF
set_option linter.unusedVariables false
set_option linter.unusedSimpArgs false
namespace Go.Proofs.Ytpmkpiffbdcflaa
open Go Go.RowKit
theorem within_run (a b c : Int) : ref16_within_f a b c = some (decide (b ≤ a) && decide (a ≤ c)) := by
  unfold ref16_within_f
  by_cases h : a ≥ b
  · rw [if_pos h, Option.bind_some, decide_eq_true (show b ≤ a from h), Bool.true_and]
  · rw [if_neg h, Option.bind_some, decide_eq_false (show ¬ b ≤ a from h), Bool.false_and]
theorem ref_Right_run (s : api_Sector) : ref16_Right_f s = some (decide (RtP s)) := by
  unfold ref16_Right_f
  simp only [within_run, Option.bind_some, Bool.and_eq_true, decide_eq_true_eq]
  by_cases h : RtP s
  · obtain ⟨h1, h2, h3, h4, h5⟩ := id h
    rw [if_pos h1.1, if_pos h1.2, if_pos h2, if_pos h3, if_pos h4, decide_eq_true h, decide_eq_true (show (1 : Int) ≤ s.Body.length by omega), decide_eq_true (show (s.Body.length : Int) ≤ 50 by omega)]
    rfl
  · rw [decide_eq_false h]
    split
    · split
      · split
        · split
          · split
            · rw [Option.bind_some]
              congr 1
              rw [← Bool.not_eq_true, Bool.and_eq_true, decide_eq_true_iff, decide_eq_true_iff]
              intro h5
              exact h ⟨⟨by assumption, by assumption⟩, by assumption, by assumption, by assumption, by omega, by omega⟩
            · rfl
          · rfl
        · rfl
      · rfl
    · rfl
theorem Number_run {n : Int} (h0 : 0 ≤ n) (h1 : n < 9223372036854775808) {many : Nat} (hm : many ≤ 8) : ref16_Number_f n (many : Int) = some (be many n) := by
  unfold ref16_Number_f
  rw [if_pos (by omega)]
  have hw : IntKind.i64.wrap ((many : Int) - 1) = (many : Int) - 1 := w64 (by omega) (by omega)
  have hp : ∀ j : Nat, 0 ≤ n / 256 ^ j ∧ n / 256 ^ j ≤ n := fun j => ⟨Int.ediv_nonneg h0 (Int.pow_nonneg (by decide)), Int.ediv_le_self _ h0⟩
  rw [hw, lp_eq (f := ref16_Number_b0) (out := be many n) (fun j q => q = (n / 256 ^ j, List.replicate (many - j) 0 ++ (be many n).drop (many - j), (many : Int) - 1 - j)) many (by omega) (by simp [be_len]) ?_ ?_]
  · rfl
  · rintro j q hj rfl
    unfold ref16_Number_b0
    simp only []
    have hl : (List.replicate (many - j) (0 : Int) ++ (be many n).drop (many - j)).length = many := by rw [List.length_append, List.length_replicate, List.length_drop, be_len]; omega
    have hpj := hp j
    have e0 : (many : Int) - 1 - j = ((many - 1 - j : Nat) : Int) := by omega
    rw [if_pos (by omega), if_pos (by rw [hl]; omega)]
    refine ⟨_, rfl, ?_⟩
    have e1 : IntKind.i64.wrap ((n / 256 ^ j).tdiv 256) = n / 256 ^ (j + 1) := by
      rw [Int.tdiv_eq_ediv_of_nonneg hpj.1, w64 (by omega) (by omega), Int.pow_succ, Int.ediv_ediv_of_nonneg (Int.pow_nonneg (by decide))]
    have e2 : IntKind.u8.wrap ((n / 256 ^ j).tmod 256) = n / 256 ^ j % 256 := by rw [Int.tmod_eq_emod_of_nonneg hpj.1, u8_wrap]; omega
    have e3 : IntKind.i64.wrap ((many : Int) - 1 - j - 1) = (many : Int) - 1 - (j + 1 : Nat) := by rw [w64 (by omega) (by omega)]; omega
    have e4 : (List.replicate (many - j) (0 : Int) ++ (be many n).drop (many - j)).set (many - 1 - j) (n / 256 ^ j % 256) = List.replicate (many - (j + 1)) 0 ++ (be many n).drop (many - (j + 1)) := by
      have hr : many - j = (many - (j + 1)) + 1 := by omega
      have hd : (be many n).drop (many - (j + 1)) = n / 256 ^ j % 256 :: (be many n).drop (many - j) := by
        rw [be_drop (by omega), show many - 1 - (many - (j + 1)) = j from by omega, show many - (j + 1) + 1 = many - j from by omega]
      rw [hd]
      conv => lhs; rw [hr]
      rw [List.replicate_succ', List.append_assoc, show many - 1 - j = (List.replicate (many - (j + 1)) (0 : Int)).length from by rw [List.length_replicate]; omega, List.set_append_right _ _ (Nat.le_refl _), Nat.sub_self]
      simp [hr.symm]
    rw [e1, e2, e3, e0, Int.toNat_natCast, e4]
  · rintro q rfl
    unfold ref16_Number_b0
    simp only []
    rw [if_neg (by omega)]
    simp
theorem ref_Put_run (s : api_Sector) (hb : Bytes s.Body) : ref16_Put_f s = some (putOf s) := by
  unfold ref16_Put_f putOf
  rw [ref_Right_run, Option.bind_some]
  by_cases h : RtP s
  · obtain ⟨h1, h2, h3, h4, h5⟩ := id h
    have n1 := Number_run (n := s.Gen) (many := 8) (by omega) (by omega) (by decide)
    have n2 := Number_run (n := s.Place) (many := 2) (by omega) (by omega) (by decide)
    have n3 := Number_run (n := s.Kept) (many := 2) (by omega) (by omega) (by decide)
    have w1 : IntKind.u8.wrap s.Parts = s.Parts := by rw [u8_wrap]; omega
    have w2 : IntKind.u8.wrap (s.Body.length : Int) = (s.Body.length : Int) := by rw [u8_wrap]; omega
    have w3 : IntKind.i64.wrap (50 - (s.Body.length : Int)) = ((50 - s.Body.length : Nat) : Int) := by rw [w64 (by omega) (by omega)]; omega
    rw [if_pos h, if_pos (by simpa using h)]
    rw [show (8 : Int) = ((8 : Nat) : Int) from rfl, n1, Option.bind_some, show (2 : Int) = ((2 : Nat) : Int) from rfl, n2, Option.bind_some, n3, Option.bind_some, w1, w2, w3]
    simp only [List.length_append, be_len, List.length_singleton, List.length_replicate, Int.toNat_natCast]
    rw [if_pos (by omega), if_pos (by omega), if_pos (by omega), if_pos (by omega), if_pos (by omega), if_pos (by omega)]
    congr 1
    simp only [enc, be_one (show (0 : Int) ≤ s.Parts by omega) (show s.Parts < 256 by omega), be_one (show (0 : Int) ≤ (s.Body.length : Int) by omega) (show (s.Body.length : Int) < 256 by omega), List.append_assoc]
  · rw [if_neg h, if_neg (by simpa using h)]
end Go.Proofs.Ytpmkpiffbdcflaa
