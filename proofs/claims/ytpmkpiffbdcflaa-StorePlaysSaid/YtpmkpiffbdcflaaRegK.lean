/- Regions, plain: what Lay leaves; what is read of it. -/
import Derived.Test.YtpmkpiffbdcflaaRegG
set_option linter.unusedVariables false
set_option linter.unusedSimpArgs false
namespace Go.Proofs.Ytpmkpiffbdcflaa
open Go Go.RowKit
/-! ### Noughts -/
/-! ### Writes, one behind the other -/
/-- Full sectors. -/
def Full (xs : List (List Int)) : Prop := ∀ x ∈ xs, x.length = 64 ∧ Bytes x
theorem Full.take {xs : List (List Int)} (h : Full xs) (m : Nat) : Full (xs.take m) := fun y hy => h y (List.mem_of_mem_take hy)
/-! ### The sectors of a region -/
def secAt (gen : Int) (st : List Int) (ents : List (List Int)) (p : Nat) : api_Sector := ⟨gen, (p : Int), (nparts st : Int), (ents.length : Int), bodyAt st ents p⟩
theorem piece_len {st : List Int} {p : Nat} : (piece st p).length = min (50 * (p + 1)) st.length - 50 * p := by unfold piece; rw [List.length_drop, List.length_take]
theorem secAt_right {gen : Int} (hg : 1 ≤ gen ∧ gen ≤ 281474976710656) {st : List Int} (hs : stOk st) {ents : List (List Int)} (he : ∀ e ∈ ents, enOk e) (hl : ents.length ≤ 1000) {p : Nat} (hp : p < nparts st + ents.length) : RtP (secAt gen st ents p) := by
  have hP : nparts st ≤ 32 ∧ 1 ≤ nparts st := by obtain ⟨h1, h2⟩ := hs; unfold nparts; omega
  refine ⟨hg, ⟨by show 0 ≤ (p : Int); omega, by show (p : Int) ≤ 4096; omega⟩, ⟨by show 1 ≤ (nparts st : Int); omega, by show (nparts st : Int) ≤ 32; omega⟩, ⟨by show 0 ≤ (ents.length : Int); omega, by show (ents.length : Int) ≤ 1000; omega⟩, ?_⟩
  show 1 ≤ (bodyAt st ents p).length ∧ (bodyAt st ents p).length ≤ 50
  unfold bodyAt
  by_cases c : p < nparts st
  · rw [if_pos c, piece_len]
    obtain ⟨h1, h2⟩ := hs
    unfold nparts at c
    omega
  · rw [if_neg c]
    exact he _ (getD_mem (by omega) [])
theorem secs_full {gen : Int} (hg : 1 ≤ gen ∧ gen ≤ 281474976710656) {st : List Int} (hs : stOk st) (hsb : Bytes st) {ents : List (List Int)} (he : ∀ e ∈ ents, enOk e) (heb : ∀ e ∈ ents, Bytes e) (hl : ents.length ≤ 1000) : Full (secs gen st ents) := by
  intro x hx
  obtain ⟨p, hp, rfl⟩ := List.getElem_of_mem hx
  rw [secs_len] at hp
  have e := secs_at (gen := gen) hp
  rw [List.getElem?_eq_getElem (by rw [secs_len]; exact hp)] at e
  have e := Option.some.inj e
  rw [e]
  have hr := secAt_right hg hs he hl hp
  have hb : Bytes (secAt gen st ents p).Body := bodyAt_bytes hsb heb hp
  exact ⟨by show (putOf (secAt gen st ents p)).length = 64; unfold putOf; rw [if_pos hr, enc_len hr.2.2.2.2.2], putOf_bytes hb⟩
/-! ### What stands at a place -/
/-! ### Rows -/
def hdr (gen : Int) (st : List Int) (ents : List (List Int)) : api_Sector := ⟨gen, 0, (nparts st : Int), (ents.length : Int), []⟩
theorem lk_like {f : Nat → Option api_Sector} {h h' : api_Sector} (e1 : h.Gen = h'.Gen) (e2 : h.Parts = h'.Parts) (e3 : h.Kept = h'.Kept) (p : Nat) : lk f h p = lk f h' p := by
  unfold lk
  rw [e1, e2, e3]
theorem rows_like {f : Nat → Option api_Sector} {h h' : api_Sector} (e1 : h.Gen = h'.Gen) (e2 : h.Parts = h'.Parts) (e3 : h.Kept = h'.Kept) : ∀ k p, rows f h k p = rows f h' k p
  | 0, _ => rfl
  | k + 1, p => by
    unfold rows
    rw [lk_like e1 e2 e3 p, rows_like e1 e2 e3 k (p + 1)]
theorem rows_of {f : Nat → Option api_Sector} {h : api_Sector} : ∀ (L : List (List Int)) (k p : Nat), (∀ j (hj : j < L.length), lk f h (p + j) = some L[j]) → lk f h (p + L.length) = none → L.length < k → rows f h k p = L
  | _, 0, _, _, _, hk => absurd hk (Nat.not_lt_zero _)
  | [], k + 1, p, _, he, _ => by
    unfold rows
    rw [show lk f h p = none from he]
  | x :: L, k + 1, p, hL, he, hk => by
    unfold rows
    have h0 := hL 0 (by simp)
    rw [Nat.add_zero] at h0
    rw [h0]
    simp only [List.getElem_cons_zero]
    rw [rows_of L k (p + 1) (fun j hj => by
      have := hL (j + 1) (by simpa using hj)
      rw [show p + 1 + j = p + (j + 1) by omega, this]; rfl) (by rw [show p + 1 + L.length = p + (x :: L).length by rw [List.length_cons]; omega]; exact he) (by simpa using hk)]
theorem pieces_flat (st : List Int) : ∀ m, ((List.range m).map (piece st)).flatten = st.take (50 * m)
  | 0 => by simp
  | m + 1 => by
    rw [List.range_succ, List.map_append, List.flatten_append, pieces_flat st m]
    simp only [List.map_cons, List.map_nil, List.flatten_cons, List.flatten_nil, List.append_nil]
    unfold piece
    have e : st.take (50 * m) = (st.take (50 * (m + 1))).take (50 * m) := by rw [List.take_take, Nat.min_eq_left (by omega)]
    rw [e, List.take_append_drop]
/-- All rows of a region. -/
def bods (st : List Int) (l : List (List Int)) : List (List Int) := (List.range (nparts st)).map (piece st) ++ l
theorem bods_len (st : List Int) (l : List (List Int)) : (bods st l).length = nparts st + l.length := by simp [bods]
theorem bods_at {st : List Int} {l : List (List Int)} {p : Nat} (hp : p < nparts st + l.length) : (bods st l)[p]? = some (bodyAt st l p) := by
  unfold bods bodyAt
  by_cases c : p < nparts st
  · rw [if_pos c, List.getElem?_append_left (by simpa using c), List.getElem?_map, List.getElem?_range c]; rfl
  · rw [if_neg c, List.getElem?_append_right (by simpa using c), List.length_map, List.length_range, List.getElem?_eq_getElem (by omega), List.getD_eq_getElem?_getD, List.getElem?_eq_getElem (by omega)]; rfl
/-- A region stands there: its sectors, and none behind that goes with them. -/
structure Rg (f : Nat → Option api_Sector) (gen : Int) (st : List Int) (kept more : List (List Int)) : Prop where
  has : ∀ p, p < nparts st + (kept ++ more).length → lk f (hdr gen st kept) p = some (bodyAt st (kept ++ more) p)
  fin : lk f (hdr gen st kept) (nparts st + (kept ++ more).length) = none
theorem Rg.rows {f : Nat → Option api_Sector} {gen : Int} {st : List Int} {kept more : List (List Int)} (R : Rg f gen st kept more) (hl : nparts st + (kept ++ more).length < 5000) : rows f (hdr gen st kept) 5000 0 = bods st (kept ++ more) := by
  refine rows_of _ _ _ (fun j hj => ?_) (by rw [bods_len, Nat.zero_add]; exact R.fin) (by rw [bods_len]; exact hl)
  rw [bods_len] at hj
  rw [Nat.zero_add, R.has j hj]
  have := bods_at hj
  rw [List.getElem?_eq_getElem (by rw [bods_len]; exact hj)] at this
  exact this.symm
theorem Rg.read {f : Nat → Option api_Sector} {gen lim : Int} {st : List Int} {kept more : List (List Int)} (hs : stOk st) (R : Rg f gen st kept more) (hl : nparts st + (kept ++ more).length < 5000) (hm : (nparts st : Int) + (kept.length : Int) ≤ lim) : rdR f lim = (⟨gen, st, kept, more⟩, true) := by
  have hP : nparts st ≤ 32 ∧ 1 ≤ nparts st := by obtain ⟨h1, h2⟩ := hs; unfold nparts; omega
  obtain ⟨s, e, s1, s2, s3, s4, s5⟩ := lk_some (R.has 0 (by omega))
  unfold rdR
  rw [e]
  dsimp only
  rw [s3, s4]
  rw [show (hdr gen st kept).Parts = (nparts st : Int) from rfl, show (hdr gen st kept).Kept = (kept.length : Int) from rfl] at *
  rw [if_neg (by omega), rows_like s2 s3 s4, R.rows hl]
  have hfl : ((bods st (kept ++ more)).take (nparts st)) = (List.range (nparts st)).map (piece st) := by
    unfold bods
    rw [List.take_left' (by simp)]
  have c1 : ¬ (((bods st (kept ++ more)).length : Int) < (nparts st : Int) + (kept.length : Int) ∨ ((bods st (kept ++ more)).take ((nparts st : Int).toNat - 1)).any (fun b => decide (b.length < 50)) = true) := by
    rintro (h | h)
    · rw [bods_len, List.length_append] at h; omega
    · obtain ⟨b, hb1, hb2⟩ := List.any_eq_true.1 h
      obtain ⟨j, hj, rfl⟩ := List.mem_take_iff_getElem.1 hb1
      have hj2 : j < nparts st - 1 := by omega
      have h3 := bods_at (st := st) (l := kept ++ more) (p := j) (by omega)
      rw [List.getElem?_eq_getElem (by omega)] at h3
      have h3 := Option.some.inj h3
      rw [h3] at hb2
      have hb2 := of_decide_eq_true hb2
      unfold bodyAt at hb2
      rw [if_pos (by omega), piece_len] at hb2
      obtain ⟨h1, h2⟩ := hs
      unfold nparts at hj2
      omega
  rw [if_neg c1]
  unfold regOf
  rw [s2, s3, s4]
  rw [show (hdr gen st kept).Gen = gen from rfl]
  rw [Int.toNat_natCast, show ((nparts st : Int) + (kept.length : Int)).toNat = nparts st + kept.length by omega, hfl, pieces_flat, List.take_of_length_le (by obtain ⟨h1, h2⟩ := hs; unfold nparts; omega)]
  have e1 : ((bods st (kept ++ more)).take (nparts st + kept.length)).drop (nparts st) = kept := by
    unfold bods
    rw [← List.append_assoc, List.take_left' (by simp), List.drop_left' (by simp)]
  have e2 : (bods st (kept ++ more)).drop (nparts st + kept.length) = more := by
    unfold bods
    rw [← List.append_assoc, List.drop_left' (by simp)]
  rw [e1, e2]
end Go.Proofs.Ytpmkpiffbdcflaa
