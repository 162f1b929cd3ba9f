/- Lan in plain Lean: what the program's functions and the document's answer. -/
import Derived.Test.YtflkagoglhckoaaGL
import Derived.Test.YtflkagoglhckoaaPureB
set_option linter.unusedVariables false
set_option linter.unusedSimpArgs false
namespace Go.Proofs.Ytflkagoglhckoaa
open Go Go.RowKit
abbrev L (p q : List (List Int)) : lan_Lan := ⟨(⟨p⟩, ⟨q⟩)⟩
abbrev R (p q : List (List Int)) : ref22_Lan := ⟨p, q⟩
abbrev M : Nat := 140737488355328
def Sm (p : List (List Int)) : Prop := ∀ x ∈ p, x.length ≤ M
/-- What is put on a way. -/
def putOn (p : List (List Int)) (b : List Int) : List (List Int) := if p.length < 2048 then p ++ [b] else p
theorem putOn_len {p : List (List Int)} {b : List Int} (h : p.length ≤ 2048) : (putOn p b).length ≤ 2048 := by
  unfold putOn
  split
  · rw [List.length_append]; simp; omega
  · exact h
theorem putOn_sm {p : List (List Int)} {b : List Int} (h : Sm p) (hb : b.length ≤ M) : Sm (putOn p b) := by
  unfold putOn
  split
  · intro x hx
    rcases List.mem_append.1 hx with hx | hx
    · exact h x hx
    · rw [List.mem_singleton.1 hx]; exact hb
  · exact h
theorem clone_ok {b : List Int} (h : b.length ≤ M) : slices_Clone_f b = some b := by
  unfold slices_Clone_f
  rw [if_pos (by simp only [M] at h; omega)]
theorem cloneb_ok {b : List Int} (h : b.length ≤ M) : slices_Clone_bor_f b = some b := by
  unfold slices_Clone_bor_f
  rw [if_pos (by simp only [M] at h; omega)]
theorem way0 (S : lan_Lan) : lan_Lan_way_f S 0 = some (some 0) := by simp [lan_Lan_way_f]
theorem way1 (S : lan_Lan) : lan_Lan_way_f S 1 = some (some 1) := by simp [lan_Lan_way_f]
theorem wayN (S : lan_Lan) {t : Int} (h0 : t ≠ 0) (h1 : t ≠ 1) : lan_Lan_way_f S t = some none := by
  unfold lan_Lan_way_f
  by_cases a : t < 0
  · rw [if_pos a]
  · rw [if_neg a, if_pos (by omega)]
theorem rput0 {p q : List (List Int)} {b : List Int} (hp : p.length ≤ 2048) : lan_row_put_0_f (L p q) b = some (decide (p.length < 2048), L (putOn p b) q) := by
  unfold lan_row_put_0_f putOn
  by_cases h : p.length < 2048
  · rw [if_neg (by simp; omega), if_pos (by simp; omega), if_pos h]; simp [h]
  · rw [if_pos (by simp; omega), if_neg h]; simp [h]
theorem rput1 {p q : List (List Int)} {b : List Int} (hq : q.length ≤ 2048) : lan_row_put_1_f (L p q) b = some (decide (q.length < 2048), L p (putOn q b)) := by
  unfold lan_row_put_1_f putOn
  by_cases h : q.length < 2048
  · rw [if_neg (by simp; omega), if_pos (by simp; omega), if_pos h]; simp [h]
  · rw [if_pos (by simp; omega), if_neg h]; simp [h]
theorem put0 {p q : List (List Int)} {b : List Int} (hb : b.length ≤ M) (hp : p.length ≤ 2048) : lan_Lan_Put_f (L p q) 0 b = some (decide (p.length < 2048), L (putOn p b) q) := by
  simp [lan_Lan_Put_f, way0, clone_ok hb, rput0 hp]
theorem put1 {p q : List (List Int)} {b : List Int} (hb : b.length ≤ M) (hq : q.length ≤ 2048) : lan_Lan_Put_f (L p q) 1 b = some (decide (q.length < 2048), L p (putOn q b)) := by
  simp [lan_Lan_Put_f, way1, clone_ok hb, rput1 hq]
theorem putN {S : lan_Lan} {t : Int} {b : List Int} (h0 : t ≠ 0) (h1 : t ≠ 1) : lan_Lan_Put_f S t b = some (false, S) := by
  simp [lan_Lan_Put_f, wayN S h0 h1]
theorem many0 (p q : List (List Int)) : lan_Lan_Many_f (L p q) 0 = some (p.length : Int) := by simp [lan_Lan_Many_f, way0]
theorem many1 (p q : List (List Int)) : lan_Lan_Many_f (L p q) 1 = some (q.length : Int) := by simp [lan_Lan_Many_f, way1]
theorem manyN (S : lan_Lan) {t : Int} (h0 : t ≠ 0) (h1 : t ≠ 1) : lan_Lan_Many_f S t = some 0 := by simp [lan_Lan_Many_f, wayN S h0 h1]
/-- The one at a place. -/
def inB (p : List (List Int)) (i : Int) : Prop := 0 ≤ i ∧ i < p.length
instance (p : List (List Int)) (i : Int) : Decidable (inB p i) := by unfold inB; infer_instance
theorem sm_at {p : List (List Int)} (h : Sm p) (i : Int) : (p.getD i.toNat []).length ≤ M := by
  rw [List.getD_eq_getElem?_getD]
  rcases hq : p[i.toNat]? with _ | x
  · simp [M]
  · exact h x (List.mem_of_getElem? hq)
theorem del_ok {p : List (List Int)} {i : Int} (hp : p.length ≤ 2048) (h : inB p i) : slices_Delete_f p i (IntKind.i64.wrap (i + 1)) = some (p.eraseIdx i.toNat) := by
  obtain ⟨h0, h1⟩ := h
  rw [w64 (by omega) (by omega)]
  unfold slices_Delete_f
  rw [if_pos ⟨h0, by omega, by omega⟩, List.eraseIdx_eq_take_drop_succ]
  congr 3
  omega
theorem at0 {p q : List (List Int)} {i : Int} {g : Bool} (hp : p.length ≤ 2048) : lan_row_at_0_f (L p q) i g = some (if inB p i then (p.getD i.toNat [], true, if g then L (p.eraseIdx i.toNat) q else L p q) else ([], false, L p q)) := by
  unfold lan_row_at_0_f
  by_cases h : inB p i
  · have h' := h; obtain ⟨h0, h1⟩ := h'
    rw [if_neg (by omega), if_neg (by simp; omega), if_pos ⟨h0, h1⟩, if_pos h]
    cases g
    · simp
    · simp only [if_true, del_ok hp h]; simp
  · rw [if_neg h]
    by_cases h0 : i < 0
    · rw [if_pos h0]
    · rw [if_neg h0, if_pos (by unfold inB at h; simp; omega)]
theorem at1 {p q : List (List Int)} {i : Int} {g : Bool} (hq : q.length ≤ 2048) : lan_row_at_1_f (L p q) i g = some (if inB q i then (q.getD i.toNat [], true, if g then L p (q.eraseIdx i.toNat) else L p q) else ([], false, L p q)) := by
  unfold lan_row_at_1_f
  by_cases h : inB q i
  · have h' := h; obtain ⟨h0, h1⟩ := h'
    rw [if_neg (by omega), if_neg (by simp; omega), if_pos ⟨h0, h1⟩, if_pos h]
    cases g
    · simp
    · simp only [if_true, del_ok hq h]; simp
  · rw [if_neg h]
    by_cases h0 : i < 0
    · rw [if_pos h0]
    · rw [if_neg h0, if_pos (by unfold inB at h; simp; omega)]
theorem arr0 {p q : List (List Int)} {i : Int} {g : Bool} (hp : p.length ≤ 2048) (hs : Sm p) : lan_Lan_arrives_f (L p q) 0 i g = some (if inB p i then (p.getD i.toNat [], true, if g then L (p.eraseIdx i.toNat) q else L p q) else ([], false, L p q)) := by
  unfold lan_Lan_arrives_f
  rw [way0, Option.bind_some]
  simp only [at0 hp, Option.bind_some]
  by_cases h : inB p i
  · simp only [if_pos h, clone_ok (sm_at hs i), Option.bind_some]
  · simp only [if_neg h, clone_ok (show ([] : List Int).length ≤ M by simp), Option.bind_some]
theorem arr1 {p q : List (List Int)} {i : Int} {g : Bool} (hq : q.length ≤ 2048) (hs : Sm q) : lan_Lan_arrives_f (L p q) 1 i g = some (if inB q i then (q.getD i.toNat [], true, if g then L p (q.eraseIdx i.toNat) else L p q) else ([], false, L p q)) := by
  unfold lan_Lan_arrives_f
  rw [way1, Option.bind_some]
  simp only [at1 hq, Option.bind_some]
  by_cases h : inB q i
  · simp only [if_pos h, clone_ok (sm_at hs i), Option.bind_some]
  · simp only [if_neg h, clone_ok (show ([] : List Int).length ≤ M by simp), Option.bind_some]
theorem arrN {S : lan_Lan} {t i : Int} {g : Bool} (h0 : t ≠ 0) (h1 : t ≠ 1) : lan_Lan_arrives_f S t i g = some ([], false, S) := by simp [lan_Lan_arrives_f, wayN S h0 h1]
theorem take_arr (S : lan_Lan) (t i : Int) : lan_Lan_Take_f S t i = lan_Lan_arrives_f S t i true := by
  unfold lan_Lan_Take_f
  rcases lan_Lan_arrives_f S t i true with _ | ⟨a, b, c⟩ <;> rfl
theorem copy_arr (S : lan_Lan) (t i : Int) : lan_Lan_Copy_f S t i = lan_Lan_arrives_f S t i false := by
  unfold lan_Lan_Copy_f
  rcases lan_Lan_arrives_f S t i false with _ | ⟨a, b, c⟩ <;> rfl
theorem head_ok : law22_head_f = some true := by
  unfold law22_head_f
  have e : (⟨(⟨[]⟩, ⟨[]⟩)⟩ : lan_Lan) = L [] [] := rfl
  rw [e]
  simp only [take_arr, copy_arr]
  have p1 : putOn [] [97] = [[97]] := rfl
  have p2 : putOn [[97]] [98] = [[97], [98]] := rfl
  rw [put0 (by simp [M]) (by simp)]
  simp only [Option.bind_some, p1]
  rw [put0 (by simp [M]) (by simp)]
  simp only [Option.bind_some, p2]
  rw [putN (by decide) (by decide)]
  simp only [Option.bind_some]
  have s2 : Sm [[97], [98]] := by intro x hx; simp at hx; rcases hx with rfl | rfl <;> simp [M]
  have s1 : Sm [[97]] := by intro x hx; simp at hx; subst hx; simp [M]
  have s0 : Sm [] := fun x hx => by cases hx
  rw [arr0 (by simp) s2]
  simp only [show inB [[97], [98]] 1 from by decide, if_true, Option.bind_some]
  simp only [Bool.false_eq_true, if_false]
  rw [arr0 (by simp) s2]
  simp only [show inB [[97], [98]] 1 from by decide, if_true, Option.bind_some]
  have e1 : ([[97], [98]] : List (List Int)).eraseIdx (1 : Int).toNat = [[97]] := rfl
  rw [e1, arr0 (by simp) s1]
  simp only [show ¬ inB [[97]] 1 from by decide, if_false, Option.bind_some]
  rw [arr1 (by simp) s0]
  simp only [show ¬ inB [] 0 from by decide, if_false, Option.bind_some]
  simp only [many0, many1, manyN _ (show (2 : Int) ≠ 0 by decide) (show (2 : Int) ≠ 1 by decide)]
  rfl
end Go.Proofs.Ytflkagoglhckoaa
