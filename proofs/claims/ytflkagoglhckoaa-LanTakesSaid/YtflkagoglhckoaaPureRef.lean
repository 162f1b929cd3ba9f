/- The document's Lan, and how much a law is given, in plain Lean. -/
import Derived.Test.YtflkagoglhckoaaPureLan
import Derived.Test.YtflkagoglhckoaaReads
set_option linter.unusedVariables false
set_option linter.unusedSimpArgs false
namespace Go.Proofs.Ytflkagoglhckoaa
open Go Go.RowKit
theorem rmany0 (p q : List (List Int)) : ref22_Lan_Many_f (R p q) 0 = some (p.length : Int) := by simp [ref22_Lan_Many_f]
theorem rmany1 (p q : List (List Int)) : ref22_Lan_Many_f (R p q) 1 = some (q.length : Int) := by simp [ref22_Lan_Many_f]
theorem rmanyN (p q : List (List Int)) {t : Int} (h0 : t ≠ 0) (h1 : t ≠ 1) : ref22_Lan_Many_f (R p q) t = some 0 := by simp [ref22_Lan_Many_f, h0, h1]
theorem rcopy0 {p q : List (List Int)} {i : Int} (hs : Sm p) : ref22_Lan_Copy_f (R p q) 0 i = some (if inB p i then (p.getD i.toNat [], true) else ([], false)) := by
  unfold ref22_Lan_Copy_f
  have hm := sm_at hs i
  by_cases h : inB p i
  · have h' := h; obtain ⟨h0, h1⟩ := h'
    rw [if_neg (by omega), rmany0, Option.bind_some, if_neg (by omega), if_pos rfl, if_pos ⟨h0, h1⟩, if_pos (by simp only [M] at hm; show (0 + (p.getD i.toNat []).length) * 1 ≤ _; omega), if_pos h]
  · rw [if_neg h]
    by_cases h0 : i < 0
    · rw [if_pos h0]
    · rw [if_neg h0, rmany0, Option.bind_some, if_pos (by unfold inB at h; omega)]
theorem rcopy1 {p q : List (List Int)} {i : Int} (hs : Sm q) : ref22_Lan_Copy_f (R p q) 1 i = some (if inB q i then (q.getD i.toNat [], true) else ([], false)) := by
  unfold ref22_Lan_Copy_f
  have hm := sm_at hs i
  by_cases h : inB q i
  · have h' := h; obtain ⟨h0, h1⟩ := h'
    rw [if_neg (by omega), rmany1, Option.bind_some, if_neg (by omega), if_neg (by decide), if_pos ⟨h0, h1⟩, if_pos (by simp only [M] at hm; show (0 + (q.getD i.toNat []).length) * 1 ≤ _; omega), if_pos h]
  · rw [if_neg h]
    by_cases h0 : i < 0
    · rw [if_pos h0]
    · rw [if_neg h0, rmany1, Option.bind_some, if_pos (by unfold inB at h; omega)]
theorem rcopyN (p q : List (List Int)) {t i : Int} (h0 : t ≠ 0) (h1 : t ≠ 1) : ref22_Lan_Copy_f (R p q) t i = some ([], false) := by
  unfold ref22_Lan_Copy_f
  by_cases h : i < 0
  · rw [if_pos h]
  · rw [if_neg h, rmanyN p q h0 h1, Option.bind_some, if_pos (by omega)]
theorem without_ok {p : List (List Int)} {i : Int} (hp : p.length ≤ 2048) (h : inB p i) : ref22_without_f p i = some (p.eraseIdx i.toNat) := by
  obtain ⟨h0, h1⟩ := h
  obtain ⟨k, rfl⟩ : ∃ k : Nat, i = k := ⟨i.toNat, by omega⟩
  unfold ref22_without_f
  obtain ⟨r, hr, rfl⟩ := lp_all (f := ref22_without_b0 p k) (s := ([], 0)) (fun j s => s = ((p.take j).eraseIdx k, (j : Int))) (fun r => r = p.eraseIdx k) p.length (by omega) (by simp) (by
    rintro j _ hj rfl
    have hjj : p.take (j + 1) = p.take j ++ [p[j]] := List.take_succ_eq_append_getElem hj
    have hlt : (p.take j).length = j := by rw [List.length_take]; omega
    dsimp only [ref22_without_b0]
    rw [if_pos (by omega)]
    by_cases hk : (j : Int) = k
    · have : j = k := by omega
      subst this
      rw [if_neg (by simp), Option.bind_some]
      refine ⟨_, rfl, ?_⟩
      rw [w64n (by omega), hjj, List.eraseIdx_append_of_length_le (by omega), List.eraseIdx_of_length_le (by omega)]
      simp [hlt]
    · have hne : j ≠ k := by omega
      rw [if_pos hk, if_pos (by omega), if_pos (by have := List.length_eraseIdx_le (p.take j) k; omega)]
      refine ⟨_, rfl, ?_⟩
      rw [w64n (by omega), hjj]
      have e1 : p.getD (j : Int).toNat [] = p[j] := by simp [List.getD_eq_getElem?_getD, hj]
      rw [e1]
      rcases Nat.lt_or_ge k j with hkj | hkj
      · rw [List.eraseIdx_append_of_lt_length (by omega)]
      · rw [List.eraseIdx_append_of_length_le (by omega), List.eraseIdx_of_length_le (l := [p[j]]) (by simp; omega), List.eraseIdx_of_length_le (by omega)]) (by
    rintro _ rfl
    dsimp only [ref22_without_b0]
    rw [if_neg (by omega)]
    exact ⟨_, rfl, by rw [List.take_length]⟩)
  rw [hr, Option.bind_some]
  rfl
theorem rtake0 {p q : List (List Int)} {i : Int} (hp : p.length ≤ 2048) (hs : Sm p) : ref22_Lan_Take_f (R p q) 0 i = some (if inB p i then (p.getD i.toNat [], true, R (p.eraseIdx i.toNat) q) else ([], false, R p q)) := by
  unfold ref22_Lan_Take_f
  rw [rcopy0 hs]
  by_cases h : inB p i
  · rw [if_pos h, if_pos h]
    simp [without_ok hp h]
  · rw [if_neg h, if_neg h]
    simp
theorem rtake1 {p q : List (List Int)} {i : Int} (hq : q.length ≤ 2048) (hs : Sm q) : ref22_Lan_Take_f (R p q) 1 i = some (if inB q i then (q.getD i.toNat [], true, R p (q.eraseIdx i.toNat)) else ([], false, R p q)) := by
  unfold ref22_Lan_Take_f
  rw [rcopy1 hs]
  by_cases h : inB q i
  · rw [if_pos h, if_pos h]
    simp [without_ok hq h]
  · rw [if_neg h, if_neg h]
    simp
theorem rtakeN (p q : List (List Int)) {t i : Int} (h0 : t ≠ 0) (h1 : t ≠ 1) : ref22_Lan_Take_f (R p q) t i = some ([], false, R p q) := by
  unfold ref22_Lan_Take_f
  rw [rcopyN p q h0 h1]
  simp
theorem rputo0 {p q : List (List Int)} {b : List Int} (hb : b.length ≤ M) (hp : p.length ≤ 2048) : ref22_Lan_Put_f (R p q) 0 b = some (decide (p.length < 2048), R (putOn p b) q) := by
  unfold ref22_Lan_Put_f putOn
  by_cases h : p.length < 2048
  · have : (p.length : Int) < 2048 := by omega
    simp only [M] at hb
    simp [h, this]
    omega
  · have : ¬ (p.length : Int) < 2048 := by omega
    simp [h, this]
theorem rputo1 {p q : List (List Int)} {b : List Int} (hb : b.length ≤ M) (hq : q.length ≤ 2048) : ref22_Lan_Put_f (R p q) 1 b = some (decide (q.length < 2048), R p (putOn q b)) := by
  unfold ref22_Lan_Put_f putOn
  by_cases h : q.length < 2048
  · have : (q.length : Int) < 2048 := by omega
    simp only [M] at hb
    simp [h, this]
    omega
  · have : ¬ (q.length : Int) < 2048 := by omega
    simp [h, this]
theorem rputoN (p q : List (List Int)) {t : Int} {b : List Int} (h0 : t ≠ 0) (h1 : t ≠ 1) : ref22_Lan_Put_f (R p q) t b = some (false, R p q) := by
  simp [ref22_Lan_Put_f, h0, h1]
/-! ### How much is given -/
abbrev z0 : law22_Op := ⟨0, 0, 0, []⟩
theorem great_ok {l : List law22_Op} (hl : l.length ≤ maxLen) : ∃ g, law22_great_f l = some g ∧ (g = false → l.length ≤ 200 ∧ ∀ o ∈ l, o.B.length ≤ 9000) := by
  unfold law22_great_f
  simp only [maxLen] at hl
  obtain ⟨r, hr, hq⟩ := lp_run (f := law22_great_b0 l) (s := ((l.length : Int), 0)) (fun j s => s.2 = (j : Int) ∧ (l.length : Int) ≤ s.1 ∧ s.1 < 9223372036854775808 ∧ ∀ k, (hk : k < l.length) → k < j → (l[k].B.length ≤ 9000 ∨ 9000 ≤ s.1)) (fun r => (l.length : Int) ≤ r ∧ (r < 9000 → ∀ o ∈ l, o.B.length ≤ 9000)) l.length (by omega) ⟨rfl, by omega, by omega, fun k _ h => absurd h (Nat.not_lt_zero k)⟩ (by
    rintro j ⟨n, _⟩ hj ⟨h1, h2, h3, h4⟩
    simp only at h1 h2 h3 h4
    subst h1
    dsimp only [law22_great_b0]
    rw [if_pos (by omega), Option.bind_some]
    simp only [decide_eq_true_eq]
    by_cases hn : n < 9000
    · left
      rw [if_pos hn, if_pos (by omega)]
      have e1 : l.getD (j : Int).toNat z0 = l[j] := by simp [List.getD_eq_getElem?_getD, hj]
      refine ⟨_, rfl, w64n (by omega), ?_, ?_, ?_⟩ <;> simp only [] <;> rw [w64 (by omega) (by omega)]
      · omega
      · omega
      · intro k hk hkj
        rcases Nat.lt_or_ge k j with h | h
        · rcases h4 k hk h with h | h
          · exact .inl h
          · omega
        · have : k = j := by omega
          subst this
          rw [show (l.getD (k : Int).toNat (⟨0, 0, 0, []⟩ : law22_Op)) = l[k] from e1]
          omega
    · right
      rw [if_neg hn]
      exact ⟨_, rfl, h2, fun h => absurd h hn⟩) (by
    rintro ⟨n, _⟩ ⟨h1, h2, h3, h4⟩
    simp only at h1 h2 h3 h4
    subst h1
    dsimp only [law22_great_b0]
    rw [if_neg (by omega), Option.bind_some]
    refine ⟨_, rfl, h2, fun hn o ho => ?_⟩
    obtain ⟨k, hk, rfl⟩ := List.getElem_of_mem ho
    rcases h4 k hk hk with h | h
    · exact h
    · omega)
  rw [hr, Option.bind_some]
  by_cases h9 : r ≥ 9000
  · rw [if_pos h9]
    exact ⟨true, rfl, fun h => by cases h⟩
  · rw [if_neg h9]
    refine ⟨_, rfl, fun h => ?_⟩
    have := of_decide_eq_false h
    exact ⟨by omega, hq.2 (by omega)⟩
end Go.Proofs.Ytflkagoglhckoaa
