/- Regions, plain: Lay and Put. -/
import Derived.Test.YtpmkpiffbdcflaaRegS
import Derived.Test.YtpmkpiffbdcflaaG1
import Derived.Test.YtpmkpiffbdcflaaG1
set_option linter.unusedVariables false
set_option linter.unusedSimpArgs false
namespace Go.Proofs.Ytpmkpiffbdcflaa
open Go Go.RowKit
/-- So many writes, one behind the other, till one fails. -/
def layW (a : Int) : Nat → disk_Disk → List (List Int) → Int × disk_Disk
  | _, d, [] => (0, d)
  | p, d, x :: xs => if (wr d (a + (p : Int)) x).1 ≠ 0 then wr d (a + (p : Int)) x else layW a (p + 1) (wr d (a + (p : Int)) x).2 xs
def nparts (st : List Int) : Nat := (st.length - 1) / 50 + 1
def piece (st : List Int) (p : Nat) : List Int := (st.take (50 * (p + 1))).drop (50 * p)
def secs (gen : Int) (st : List Int) (ents : List (List Int)) : List (List Int) :=
  (List.range (nparts st)).map (fun (p : Nat) => putOf ⟨gen, (p : Int), (nparts st : Int), (ents.length : Int), piece st p⟩) ++ (List.range ents.length).map (fun (i : Nat) => putOf ⟨gen, ((nparts st + i : Nat) : Int), (nparts st : Int), (ents.length : Int), ents.getD i []⟩)
def stOk (st : List Int) : Prop := 1 ≤ st.length ∧ st.length ≤ 1600
instance (st : List Int) : Decidable (stOk st) := inferInstanceAs (Decidable (_ ∧ _))
def enOk (e : List Int) : Prop := 1 ≤ e.length ∧ e.length ≤ 50
instance (e : List Int) : Decidable (enOk e) := inferInstanceAs (Decidable (_ ∧ _))
theorem state_eq (st : List Int) : region_state_f st = some (decide (stOk st)) := by
  unfold region_state_f stOk
  by_cases c : (st.length : Int) > 0
  · rw [if_pos c]
    dsimp only [Option.bind_some]
    congr 1
    exact decide_eq_decide.2 (by omega)
  · rw [if_neg c]
    dsimp only [Option.bind_some]
    congr 1
    exact (decide_eq_false (by omega)).symm
theorem entry_eq (e : List Int) : region_entry_f e = some (decide (enOk e)) := by
  unfold region_entry_f enOk
  by_cases c : (e.length : Int) > 0
  · rw [if_pos c]
    dsimp only [Option.bind_some]
    congr 1
    exact decide_eq_decide.2 (by omega)
  · rw [if_neg c]
    dsimp only [Option.bind_some]
    congr 1
    exact (decide_eq_false (by omega)).symm
theorem parts_eq {st : List Int} (h : stOk st) : region_parts_f st = some (nparts st : Int) := by
  obtain ⟨h1, h2⟩ := h
  unfold region_parts_f nparts
  have e : (IntKind.i64.wrap ((st.length : Int) - 1)).tdiv 50 = (((st.length - 1) / 50 : Nat) : Int) := by
    rw [w64 (by omega) (by omega), Int.tdiv_eq_ediv_of_nonneg (by omega)]
    omega
  rw [e, w64 (x := (((st.length - 1) / 50 : Nat) : Int)) (by omega) (by omega), w64 (by omega) (by omega)]
  rfl
theorem ents_eq (d : disk_Disk) (ents : List (List Int)) (hl : ents.length ≤ 1000) : lp (region_Lay_b0 d ents) 0 = some (if ∀ e ∈ ents, enOk e then .inl () else .inr (1, d)) := by
  have key : ∃ q, lp (region_Lay_b0 d ents) 0 = some q ∧ q = (if ∀ e ∈ ents, enOk e then .inl () else .inr (1, d)) := by
    refine lp_run (fun k (s : Int) => s = (k : Int) ∧ ∀ e ∈ ents.take k, enOk e) _ ents.length (by omega) ⟨rfl, by simp⟩ ?_ ?_
    · rintro k s hk ⟨rfl, ht⟩
      have hg : ents.getD k [] = ents[k] := by rw [List.getD_eq_getElem?_getD, List.getElem?_eq_getElem hk]; rfl
      by_cases e : enOk ents[k]
      · refine .inl ⟨((k + 1 : Nat) : Int), ?_, rfl, ?_⟩
        · unfold region_Lay_b0
          dsimp only
          rw [if_pos (by omega), if_pos (by omega), Int.toNat_natCast, entry_eq, hg]
          dsimp only [Option.bind_some]
          rw [if_pos (decide_eq_true e), w64n (by omega)]
        · rw [take_snoc hk]
          intro x hx
          rcases List.mem_append.1 hx with hx | hx
          · exact ht x hx
          · rw [List.mem_singleton.1 hx]; exact e
      · refine .inr ⟨.inr (1, d), ?_, ?_⟩
        · unfold region_Lay_b0
          dsimp only
          rw [if_pos (by omega), if_pos (by omega), Int.toNat_natCast, entry_eq, hg]
          dsimp only [Option.bind_some]
          rw [if_neg (by simpa using e)]
        · rw [if_neg fun h => e (h _ (List.getElem_mem hk))]
    · rintro s ⟨rfl, ht⟩
      rw [List.take_length] at ht
      refine ⟨.inl (), ?_, (if_pos ht).symm⟩
      unfold region_Lay_b0
      dsimp only
      rw [if_neg (by omega)]
  obtain ⟨q, h1, rfl⟩ := key
  exact h1
theorem piece_bytes {st : List Int} (hb : Bytes st) (p : Nat) : Bytes (piece st p) := bytes_drop (bytes_take hb _) _
theorem secs_len (gen : Int) (st : List Int) (ents : List (List Int)) : (secs gen st ents).length = nparts st + ents.length := by simp [secs]
theorem secs_lo {gen : Int} {st : List Int} {ents : List (List Int)} {p : Nat} (h : p < nparts st) : (secs gen st ents)[p]? = some (putOf ⟨gen, (p : Int), (nparts st : Int), (ents.length : Int), piece st p⟩) := by
  unfold secs
  rw [List.getElem?_append_left (by simpa using h), List.getElem?_map, List.getElem?_range h]; rfl
theorem secs_hi {gen : Int} {st : List Int} {ents : List (List Int)} {i : Nat} (h : i < ents.length) : (secs gen st ents)[nparts st + i]? = some (putOf ⟨gen, ((nparts st + i : Nat) : Int), (nparts st : Int), (ents.length : Int), ents.getD i []⟩) := by
  unfold secs
  rw [List.getElem?_append_right (by simp), List.getElem?_map, List.length_map, List.length_range, Nat.add_sub_cancel_left, List.getElem?_range h]; rfl
theorem drop_some {α : Type} {l : List α} {k : Nat} {x : α} (h : l[k]? = some x) : l.drop k = x :: l.drop (k + 1) := by
  obtain ⟨hk, rfl⟩ := List.getElem?_eq_some_iff.1 h
  exact List.drop_eq_getElem_cons hk
/-- The body of the sector at a place. -/
def bodyAt (st : List Int) (ents : List (List Int)) (p : Nat) : List Int := if p < nparts st then piece st p else ents.getD (p - nparts st) []
theorem secs_at {gen : Int} {st : List Int} {ents : List (List Int)} {p : Nat} (h : p < nparts st + ents.length) : (secs gen st ents)[p]? = some (putOf ⟨gen, (p : Int), (nparts st : Int), (ents.length : Int), bodyAt st ents p⟩) := by
  unfold bodyAt
  by_cases c : p < nparts st
  · rw [if_pos c, secs_lo c]
  · rw [if_neg c]
    have e := secs_hi (gen := gen) (st := st) (ents := ents) (i := p - nparts st) (by omega)
    rw [show nparts st + (p - nparts st) = p by omega] at e
    exact e
theorem bodyAt_bytes {st : List Int} {ents : List (List Int)} (hsb : Bytes st) (heb : ∀ e ∈ ents, Bytes e) {p : Nat} (h : p < nparts st + ents.length) : Bytes (bodyAt st ents p) := by
  unfold bodyAt
  by_cases c : p < nparts st
  · rw [if_pos c]; exact piece_bytes hsb p
  · rw [if_neg c]; exact heb _ (getD_mem (by omega) [])
end Go.Proofs.Ytpmkpiffbdcflaa
