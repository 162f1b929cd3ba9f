/- Regions, plain: Lay and Put on a disk that does not stand still; new disks; crashes. -/
import Derived.Test.YtpmkpiffbdcflaaRegK
set_option linter.unusedVariables false
set_option linter.unusedSimpArgs false
namespace Go.Proofs.Ytpmkpiffbdcflaa
open Go Go.RowKit
/-- What may be laid. -/
structure LayOk (gen : Int) (st : List Int) (ents : List (List Int)) (lim : Int) : Prop where
  g : 1 ≤ gen ∧ gen ≤ 281474976710656
  s : stOk st
  k : ents.length ≤ 1000
  e : ∀ x ∈ ents, enOk x
  r : (nparts st : Int) + (ents.length : Int) ≤ lim
theorem np_le {st : List Int} (h : stOk st) : 1 ≤ nparts st ∧ nparts st ≤ 32 := by obtain ⟨h1, h2⟩ := h; unfold nparts; omega
theorem layV_cases (d : disk_Disk) (a lim gen : Int) (st : List Int) (ents : List (List Int)) : layV d a lim gen st ents = (1, d) ∨ layV d a lim gen st ents = (5, d) ∨ (LayOk gen st ents lim ∧ layV d a lim gen st ents = layW a 0 d (secs gen st ents)) := by
  unfold layV
  by_cases c : gen < 1 ∨ gen > 281474976710656 ∨ ¬ stOk st ∨ (ents.length : Int) > 1000 ∨ ¬ (∀ e ∈ ents, enOk e)
  · rw [if_pos c]; exact .inl rfl
  · rw [if_neg c]
    have h1 : 1 ≤ gen := Int.not_lt.1 fun h => c (.inl h)
    have h2 : gen ≤ 281474976710656 := Int.not_lt.1 fun h => c (.inr (.inl h))
    have h3 : stOk st := Classical.not_not.1 fun h => c (.inr (.inr (.inl h)))
    have h4 : (ents.length : Int) ≤ 1000 := Int.not_lt.1 fun h => c (.inr (.inr (.inr (.inl h))))
    have h5 : ∀ e ∈ ents, enOk e := Classical.not_not.1 fun h => c (.inr (.inr (.inr (.inr h))))
    by_cases c2 : (nparts st : Int) + (ents.length : Int) > lim
    · rw [if_pos c2]; exact .inr (.inl rfl)
    · rw [if_neg c2]; exact .inr (.inr ⟨⟨⟨h1, h2⟩, h3, by omega, h5, by omega⟩, rfl⟩)
theorem LayOk.full {gen lim : Int} {st : List Int} {ents : List (List Int)} (L : LayOk gen st ents lim) (hsb : Bytes st) (heb : ∀ e ∈ ents, Bytes e) : Full (secs gen st ents) := secs_full L.g L.s hsb L.e heb L.k
/-! ### Put -/
def entAt (gen : Int) (st : List Int) (kept more : List (List Int)) (e : List Int) : api_Sector := ⟨gen, ((nparts st + (kept.length + more.length) : Nat) : Int), (nparts st : Int), (kept.length : Int), e⟩
/-! ### What stands there, and nothing like it behind -/
structure RgA (f : Nat → Option api_Sector) (gen : Int) (st : List Int) (kept more : List (List Int)) : Prop where
  has : ∀ p, p < nparts st + (kept ++ more).length → lk f (hdr gen st kept) p = some (bodyAt st (kept ++ more) p)
  fin : ∀ p, nparts st + (kept ++ more).length ≤ p → lk f (hdr gen st kept) p = none
theorem RgA.rg {f : Nat → Option api_Sector} {gen : Int} {st : List Int} {kept more : List (List Int)} (R : RgA f gen st kept more) : Rg f gen st kept more := ⟨R.has, R.fin _ (Nat.le_refl _)⟩
theorem bodyAt_lo {st : List Int} {l m : List (List Int)} {p : Nat} (h : p < nparts st + l.length) : bodyAt st (l ++ m) p = bodyAt st l p := by
  unfold bodyAt
  by_cases c : p < nparts st
  · rw [if_pos c, if_pos c]
  · rw [if_neg c, if_neg c, List.getD_eq_getElem?_getD, List.getD_eq_getElem?_getD, List.getElem?_append_left (by omega)]
theorem bodyAt_hi {st : List Int} {l m : List (List Int)} {j : Nat} : bodyAt st (l ++ m) (nparts st + (l.length + j)) = m.getD j [] := by
  unfold bodyAt
  rw [if_neg (by omega), List.getD_eq_getElem?_getD, List.getD_eq_getElem?_getD, show nparts st + (l.length + j) - nparts st = l.length + j by omega, List.getElem?_append_right (by omega), show l.length + j - l.length = j by omega]
theorem lk_of {f : Nat → Option api_Sector} {gen : Int} {st : List Int} {kept : List (List Int)} {p : Nat} {b : List Int} (h : f p = some ⟨gen, (p : Int), (nparts st : Int), (kept.length : Int), b⟩) : lk f (hdr gen st kept) p = some b := by
  unfold lk
  rw [h]
  exact if_pos ⟨rfl, rfl, rfl, rfl⟩
/-- One entry more. -/
theorem RgA.put {f g : Nat → Option api_Sector} {gen : Int} {st : List Int} {kept more : List (List Int)} {e : List Int} (R : RgA f gen st kept more) (h : ∀ p, g p = if p = nparts st + (kept.length + more.length) then some (entAt gen st kept more e) else f p) : RgA g gen st kept (more ++ [e]) := by
  have hl : (kept ++ (more ++ [e])).length = kept.length + more.length + 1 := by simp; omega
  have hl2 : (kept ++ more).length = kept.length + more.length := by simp
  refine ⟨fun p hp => ?_, fun p hp => ?_⟩
  · by_cases c : p = nparts st + (kept.length + more.length)
    · have hb := bodyAt_hi (st := st) (l := kept ++ more) (m := [e]) (j := 0)
      rw [hl2, Nat.add_zero] at hb
      rw [← List.append_assoc, c, hb]
      refine lk_of ?_
      rw [h, if_pos rfl]; rfl
    · have h1 := R.has p (by omega)
      rw [← List.append_assoc, bodyAt_lo (by omega), ← h1]
      unfold lk
      rw [h p, if_neg c]
  · have h1 := R.fin p (by omega)
    rw [← h1]
    unfold lk
    rw [h p, if_neg (by omega)]
/-! ### New disks -/
/-! ### The greatest -/
/-! ### A crash -/
end Go.Proofs.Ytpmkpiffbdcflaa
