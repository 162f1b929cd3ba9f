/- Regions, plain: the rows that are read. -/
import Derived.Test.YtpmkpiffbdcflaaRegA
set_option linter.unusedVariables false
set_option linter.unusedSimpArgs false
namespace Go.Proofs.Ytpmkpiffbdcflaa
open Go Go.RowKit
abbrev RG0 : api_Region := ⟨0, [], [], []⟩
theorem sa_some {v : View} (hv : ∀ i, Bytes (v i).1) {a lim p : Int} {s : api_Sector} (h : sa v a lim p = some s) : RtP s ∧ Bytes s.Body := by
  unfold sa at h
  by_cases c : p < lim ∧ 0 ≤ a
  · rw [if_pos c] at h
    by_cases c2 : (v (a + p)).2 = 0 ∧ (dec (v (a + p)).1).2 = true
    · rw [if_pos c2] at h
      obtain ⟨h1, h2⟩ := dec_true c2.2
      have h := Option.some.inj h
      rw [h2] at h
      subst h
      exact ⟨h1.2.1, parse_bytes (hv _)⟩
    · rw [if_neg c2] at h; cases h
  · rw [if_neg c] at h; cases h
def lk (f : Nat → Option api_Sector) (h : api_Sector) (p : Nat) : Option (List Int) :=
  match f p with
  | some s => if s.Place = (p : Int) ∧ s.Gen = h.Gen ∧ s.Parts = h.Parts ∧ s.Kept = h.Kept then some s.Body else none
  | none => none
def rows (f : Nat → Option api_Sector) (h : api_Sector) : Nat → Nat → List (List Int)
  | 0, _ => []
  | k + 1, p => match lk f h p with
    | some b => b :: rows f h k (p + 1)
    | none => []
theorem rows_at (f : Nat → Option api_Sector) (h : api_Sector) : ∀ k p j, j < (rows f h k p).length → lk f h (p + j) = (rows f h k p)[j]?
  | 0, p, j, hj => by simp [rows] at hj
  | k + 1, p, j, hj => by
    unfold rows at hj ⊢
    cases hl : lk f h p with
    | none => simp [hl] at hj
    | some b =>
      simp only [hl] at hj ⊢
      cases j with
      | zero => exact hl
      | succ j =>
        have := rows_at f h k (p + 1) j (by simpa using hj)
        rw [show p + (j + 1) = p + 1 + j by omega, this]
        rfl
theorem rows_end (f : Nat → Option api_Sector) (h : api_Sector) : ∀ k p, (rows f h k p).length < k → lk f h (p + (rows f h k p).length) = none
  | 0, p, hj => by simp [rows] at hj
  | k + 1, p, hj => by
    unfold rows at hj ⊢
    cases hl : lk f h p with
    | none => exact hl
    | some b =>
      simp only [hl] at hj ⊢
      have := rows_end f h k (p + 1) (by simpa using hj)
      rw [List.length_cons, show p + ((rows f h k (p + 1)).length + 1) = p + 1 + (rows f h k (p + 1)).length by omega]
      exact this
/-- The region that stands in so many rows. -/
def regOf (h : api_Sector) (R : List (List Int)) : api_Region := ⟨h.Gen, (R.take h.Parts.toNat).flatten, (R.take (h.Parts + h.Kept).toNat).drop h.Parts.toNat, R.drop (h.Parts + h.Kept).toNat⟩
def rdR (f : Nat → Option api_Sector) (lim : Int) : api_Region × Bool :=
  match f 0 with
  | none => (RG0, false)
  | some h => if h.Parts + h.Kept > lim then (RG0, false) else
    if ((rows f h 5000 0).length : Int) < h.Parts + h.Kept ∨ ((rows f h 5000 0).take (h.Parts.toNat - 1)).any (fun b => decide (b.length < 50)) = true then (RG0, false) else (regOf h (rows f h 5000 0), true)
theorem flat_len : ∀ (l : List (List Int)), (∀ b ∈ l, b.length ≤ 50) → l.flatten.length ≤ 50 * l.length
  | [], _ => by simp
  | b :: l, h => by
    have h1 := h b List.mem_cons_self
    have h2 := flat_len l fun x hx => h x (List.mem_cons_of_mem _ hx)
    simp only [List.flatten_cons, List.length_append, List.length_cons]
    omega
theorem take_snoc {α : Type} {l : List α} {k : Nat} (h : k < l.length) : l.take (k + 1) = l.take k ++ [l[k]] := by
  rw [List.take_add_one, List.getElem?_eq_getElem h]; rfl
/-- The three parts, one row more. -/
theorem parts_snoc {α : Type} {L : List (List α)} {b : List α} {P Q k : Nat} (hL : L.length = k) (hPQ : P ≤ Q) :
    (k + 1 ≤ P → ((L ++ [b]).take P).flatten = (L.take P).flatten ++ b ∧ ((L ++ [b]).take Q).drop P = (L.take Q).drop P ∧ (L ++ [b]).drop Q = L.drop Q) ∧
    (P < k + 1 → k + 1 ≤ Q → ((L ++ [b]).take P).flatten = (L.take P).flatten ∧ ((L ++ [b]).take Q).drop P = (L.take Q).drop P ++ [b] ∧ (L ++ [b]).drop Q = L.drop Q) ∧
    (Q < k + 1 → ((L ++ [b]).take P).flatten = (L.take P).flatten ∧ ((L ++ [b]).take Q).drop P = (L.take Q).drop P ∧ (L ++ [b]).drop Q = L.drop Q ++ [b]) := by
  subst hL
  refine ⟨fun h => ?_, fun h1 h2 => ?_, fun h => ?_⟩
  · rw [List.take_of_length_le (l := L ++ [b]) (i := P) (by simp; omega), List.take_of_length_le (l := L) (i := P) (by omega), List.take_of_length_le (l := L ++ [b]) (i := Q) (by simp; omega), List.take_of_length_le (l := L) (i := Q) (by omega), List.drop_of_length_le (l := L ++ [b]) (by simp; omega), List.drop_of_length_le (l := L) (by omega), List.drop_of_length_le (l := L ++ [b]) (by simp; omega), List.drop_of_length_le (l := L) (by omega)]
    simp
  · rw [List.take_append_of_le_length (by omega), List.take_of_length_le (l := L ++ [b]) (i := Q) (by simp; omega), List.take_of_length_le (l := L) (i := Q) (by omega), List.drop_append_of_le_length (by omega), List.drop_of_length_le (l := L ++ [b]) (i := Q) (by simp; omega), List.drop_of_length_le (l := L) (i := Q) (by omega)]
    exact ⟨rfl, rfl, rfl⟩
  · rw [List.take_append_of_le_length (by omega), List.take_append_of_le_length (by omega), List.drop_append_of_le_length (by omega)]
    exact ⟨rfl, rfl, rfl⟩
end Go.Proofs.Ytpmkpiffbdcflaa
