/- Regions, plain: Lay and Put on a disk that does not stand still; new disks; crashes. -/
import Derived.Test.YtpmkpiffbdcflaaRegK
set_option linter.unusedVariables false
set_option linter.unusedSimpArgs false
namespace Go.Proofs.Ytpmkpiffbdcflaa
open Go Go.RowKit
/-- What may be laid. -/
structure LayOk (gen : Int) (st : List Int) (ents : List (List Int)) (lim : Int) : Prop where
  g : 1 ≤ gen ∧ gen ≤ 281474976710656
  s : stOk st
  k : ents.length ≤ 1000
  e : ∀ x ∈ ents, enOk x
  r : (nparts st : Int) + (ents.length : Int) ≤ lim
theorem np_le {st : List Int} (h : stOk st) : 1 ≤ nparts st ∧ nparts st ≤ 32 := by obtain ⟨h1, h2⟩ := h; unfold nparts; omega
theorem layV_cases (d : disk_Disk) (a lim gen : Int) (st : List Int) (ents : List (List Int)) : layV d a lim gen st ents = (1, d) ∨ layV d a lim gen st ents = (5, d) ∨ (LayOk gen st ents lim ∧ layV d a lim gen st ents = layW a 0 d (secs gen st ents)) := by
  unfold layV
  by_cases c : gen < 1 ∨ gen > 281474976710656 ∨ ¬ stOk st ∨ (ents.length : Int) > 1000 ∨ ¬ (∀ e ∈ ents, enOk e)
  · rw [if_pos c]; exact .inl rfl
  · rw [if_neg c]
    have h1 : 1 ≤ gen := Int.not_lt.1 fun h => c (.inl h)
    have h2 : gen ≤ 281474976710656 := Int.not_lt.1 fun h => c (.inr (.inl h))
    have h3 : stOk st := Classical.not_not.1 fun h => c (.inr (.inr (.inl h)))
    have h4 : (ents.length : Int) ≤ 1000 := Int.not_lt.1 fun h => c (.inr (.inr (.inr (.inl h))))
    have h5 : ∀ e ∈ ents, enOk e := Classical.not_not.1 fun h => c (.inr (.inr (.inr (.inr h))))
    by_cases c2 : (nparts st : Int) + (ents.length : Int) > lim
    · rw [if_pos c2]; exact .inr (.inl rfl)
    · rw [if_neg c2]; exact .inr (.inr ⟨⟨⟨h1, h2⟩, h3, by omega, h5, by omega⟩, rfl⟩)
theorem layV_ok {d : disk_Disk} {a lim gen : Int} {st : List Int} {ents : List (List Int)} (L : LayOk gen st ents lim) : layV d a lim gen st ents = layW a 0 d (secs gen st ents) := by
  unfold layV
  rw [if_neg (by
    rintro (h | h | h | h | h)
    · have := L.g; omega
    · have := L.g; omega
    · exact h L.s
    · have := L.k; omega
    · exact h L.e), if_neg (by have := L.r; omega)]
theorem LayOk.full {gen lim : Int} {st : List Int} {ents : List (List Int)} (L : LayOk gen st ents lim) (hsb : Bytes st) (heb : ∀ e ∈ ents, Bytes e) : Full (secs gen st ents) := secs_full L.g L.s hsb L.e heb L.k
/-- What is read behind so many writes of Lay. -/
theorem lay_view {d : disk_Disk} {a lim gen : Int} {st : List Int} {ents : List (List Int)} (L : LayOk gen st ents lim) (hsb : Bytes st) (heb : ∀ e ∈ ents, Bytes e) (ha : 0 ≤ a) {m : Nat} (hm : m ≤ (secs gen st ents).length) (f : Int) (p : Nat) :
    fa (rdv ⟨d.sectors, d.torn, d.pending ++ wrs a 0 ((secs gen st ents).take m), f⟩) a lim p = if p < m then some (secAt gen st ents p) else fa (rdv d) a lim p := by
  have hF := (L.full hsb heb).take m
  have hl : ((secs gen st ents).take m).length = m := by rw [List.length_take]; omega
  have hsl := secs_len gen st ents
  have e := rdv_more d.sectors d.torn d.pending (wrs a 0 ((secs gen st ents).take m)) f d.fuse (a + (p : Int))
  rw [fold_wrs a _ _ 0 _ hF, hl] at e
  have hr := L.r
  by_cases c : p < m
  · rw [if_pos c]
    rw [if_pos (by omega), show (a + (p : Int) - a - ((0 : Nat) : Int)).toNat = p by omega] at e
    have e2 : ((secs gen st ents).take m).getD p [] = putOf (secAt gen st ents p) := by
      rw [List.getD_eq_getElem?_getD, List.getElem?_take, if_pos c, ← List.getD_eq_getElem?_getD, secs_getD (by omega)]
    rw [e2] at e
    exact fa_put e (secAt_right L.g L.s L.e L.k (by omega)) (bodyAt_bytes hsb heb (by omega)) (by omega) ha
  · rw [if_neg c]
    rw [if_neg (by omega)] at e
    exact fa_same e
theorem lay_out {d : disk_Disk} {a lim gen : Int} {st : List Int} {ents : List (List Int)} (L : LayOk gen st ents lim) (hsb : Bytes st) (heb : ∀ e ∈ ents, Bytes e) {m : Nat} (f : Int) {i : Int} (hi : i < a ∨ a + lim ≤ i) :
    rdv ⟨d.sectors, d.torn, d.pending ++ wrs a 0 ((secs gen st ents).take m), f⟩ i = rdv d i := by
  have hF := (L.full hsb heb).take m
  have hsl := secs_len gen st ents
  have hl : ((secs gen st ents).take m).length ≤ nparts st + ents.length := by rw [List.length_take]; omega
  have e := rdv_more d.sectors d.torn d.pending (wrs a 0 ((secs gen st ents).take m)) f d.fuse i
  rw [fold_wrs a _ _ 0 _ hF] at e
  have hr := L.r
  rw [e, if_neg (by omega)]
/-- Lay, where nothing stands still. -/
theorem lay_fine {n : Nat} {d : disk_Disk} (W : WFd n d) (hf : d.fuse = -1) {a lim gen : Int} {st : List Int} {ents : List (List Int)} (L : LayOk gen st ents lim) (hsb : Bytes st) (heb : ∀ e ∈ ents, Bytes e) (ha : 0 ≤ a) (hin : a + lim ≤ (n : Int)) :
    layV d a lim gen st ents = (0, ⟨d.sectors, d.torn, d.pending ++ wrs a 0 (secs gen st ents), -1⟩) := by
  rw [layV_ok L]
  have hr := L.r
  have hsl := secs_len gen st ents
  obtain ⟨m, h1, h2, h3, h4⟩ := layW_run (a := a) (secs gen st ents) 0 W (L.full hsb heb) (by omega) (by omega)
  obtain ⟨h5, h6⟩ := h4 hf
  have hm : m = (secs gen st ents).length := by
    rcases h3 with h3 | h3
    · exact h3.2
    · omega
  rw [h6, hm, List.take_length] at h2
  exact Prod.ext h5 h2
theorem WFd.fine {n : Nat} {d : disk_Disk} (W : WFd n d) {a lim gen : Int} {st : List Int} {ents : List (List Int)} (L : LayOk gen st ents lim) (ha : 0 ≤ a) (hin : a + lim ≤ (n : Int)) (m : Nat) {f : Int} (hf : -1 ≤ f ∧ f < 9223372036854775808) : WFd n ⟨d.sectors, d.torn, d.pending ++ wrs a 0 ((secs gen st ents).take m), f⟩ := by
  refine ⟨W.len, fun p hp => ?_, W.nd, hf⟩
  rcases List.mem_append.1 hp with hp | hp
  · exact W.at_ p hp
  · have := wrs_at a _ 0 hp
    have hsl := secs_len gen st ents
    have hl : ((secs gen st ents).take m).length ≤ nparts st + ents.length := by rw [List.length_take]; omega
    have hr := L.r
    omega
/-! ### Put -/
def entAt (gen : Int) (st : List Int) (kept more : List (List Int)) (e : List Int) : api_Sector := ⟨gen, ((nparts st + (kept.length + more.length) : Nat) : Int), (nparts st : Int), (kept.length : Int), e⟩
theorem putV_ok {d : disk_Disk} {a lim gen : Int} {st : List Int} {kept more : List (List Int)} {e : List Int} (L : LayOk gen st kept lim) : putV d a lim ⟨gen, st, kept, more⟩ e = if ¬ enOk e then (1, d) else if ((nparts st + (kept.length + more.length) : Nat) : Int) ≥ lim then (5, d) else wr d (a + ((nparts st + (kept.length + more.length) : Nat) : Int)) (putOf (entAt gen st kept more e)) := by
  unfold putV entAt
  dsimp only
  have hg := L.g
  have hk := L.k
  rw [show (nparts st : Int) + (kept.length : Int) + (more.length : Int) = ((nparts st + (kept.length + more.length) : Nat) : Int) by omega]
  by_cases c : enOk e
  · rw [if_neg (by
      rintro (h | h | h | h | h)
      · exact h c
      · omega
      · omega
      · exact h L.s
      · omega), if_neg (not_not_intro c)]
  · rw [if_pos (.inl c), if_pos c]
theorem entAt_right {gen lim : Int} {st : List Int} {kept more : List (List Int)} {e : List Int} (L : LayOk gen st kept lim) (he : enOk e) (hq : nparts st + (kept.length + more.length) ≤ 4096) : RtP (entAt gen st kept more e) := by
  have hp := np_le L.s
  have hk := L.k
  exact ⟨L.g, ⟨by show 0 ≤ ((nparts st + (kept.length + more.length) : Nat) : Int); omega, by show ((nparts st + (kept.length + more.length) : Nat) : Int) ≤ 4096; omega⟩, ⟨by show 1 ≤ (nparts st : Int); omega, by show (nparts st : Int) ≤ 32; omega⟩, ⟨by show 0 ≤ (kept.length : Int); omega, by show (kept.length : Int) ≤ 1000; omega⟩, he⟩
theorem entAt_full {gen lim : Int} {st : List Int} {kept more : List (List Int)} {e : List Int} (L : LayOk gen st kept lim) (he : enOk e) (heb : Bytes e) (hq : nparts st + (kept.length + more.length) ≤ 4096) : (putOf (entAt gen st kept more e)).length = 64 ∧ Bytes (putOf (entAt gen st kept more e)) := by
  have hr := entAt_right L he hq
  exact ⟨by unfold putOf; rw [if_pos hr, enc_len hr.2.2.2.2.2], putOf_bytes heb⟩
/-! ### What stands there, and nothing like it behind -/
structure RgA (f : Nat → Option api_Sector) (gen : Int) (st : List Int) (kept more : List (List Int)) : Prop where
  has : ∀ p, p < nparts st + (kept ++ more).length → lk f (hdr gen st kept) p = some (bodyAt st (kept ++ more) p)
  fin : ∀ p, nparts st + (kept ++ more).length ≤ p → lk f (hdr gen st kept) p = none
theorem RgA.rg {f : Nat → Option api_Sector} {gen : Int} {st : List Int} {kept more : List (List Int)} (R : RgA f gen st kept more) : Rg f gen st kept more := ⟨R.has, R.fin _ (Nat.le_refl _)⟩
theorem bodyAt_lo {st : List Int} {l m : List (List Int)} {p : Nat} (h : p < nparts st + l.length) : bodyAt st (l ++ m) p = bodyAt st l p := by
  unfold bodyAt
  by_cases c : p < nparts st
  · rw [if_pos c, if_pos c]
  · rw [if_neg c, if_neg c, List.getD_eq_getElem?_getD, List.getD_eq_getElem?_getD, List.getElem?_append_left (by omega)]
theorem bodyAt_hi {st : List Int} {l m : List (List Int)} {j : Nat} : bodyAt st (l ++ m) (nparts st + (l.length + j)) = m.getD j [] := by
  unfold bodyAt
  rw [if_neg (by omega), List.getD_eq_getElem?_getD, List.getD_eq_getElem?_getD, show nparts st + (l.length + j) - nparts st = l.length + j by omega, List.getElem?_append_right (by omega), show l.length + j - l.length = j by omega]
theorem lk_of {f : Nat → Option api_Sector} {gen : Int} {st : List Int} {kept : List (List Int)} {p : Nat} {b : List Int} (h : f p = some ⟨gen, (p : Int), (nparts st : Int), (kept.length : Int), b⟩) : lk f (hdr gen st kept) p = some b := by
  unfold lk
  rw [h]
  exact if_pos ⟨rfl, rfl, rfl, rfl⟩
theorem lk_off {f : Nat → Option api_Sector} {h : api_Sector} {p : Nat} (e : f p = none) : lk f h p = none := by
  unfold lk
  rw [e]
theorem lk_far {f : Nat → Option api_Sector} {h : api_Sector} {p : Nat} (e : ∀ s, f p = some s → s.Gen ≠ h.Gen) : lk f h p = none := by
  unfold lk
  cases hf : f p with
  | none => rfl
  | some s => exact if_neg fun hh => e s hf hh.2.1
/-- What was laid stands there, if none stood there that goes with it. -/
theorem RgA.lay {f g : Nat → Option api_Sector} {gen : Int} {st : List Int} {ents : List (List Int)} (h : ∀ p, g p = if p < nparts st + ents.length then some (secAt gen st ents p) else f p) (hf : ∀ p, nparts st + ents.length ≤ p → ∀ s, f p = some s → s.Gen ≠ gen) : RgA g gen st ents [] := by
  refine ⟨fun p hp => ?_, fun p hp => ?_⟩
  · rw [List.append_nil] at hp ⊢
    refine lk_of ?_
    rw [h p, if_pos hp]; rfl
  · rw [List.append_nil] at hp
    refine lk_far fun s hs => ?_
    rw [h p, if_neg (by omega)] at hs
    exact hf p hp s hs
/-- One entry more. -/
theorem RgA.put {f g : Nat → Option api_Sector} {gen : Int} {st : List Int} {kept more : List (List Int)} {e : List Int} (R : RgA f gen st kept more) (h : ∀ p, g p = if p = nparts st + (kept.length + more.length) then some (entAt gen st kept more e) else f p) : RgA g gen st kept (more ++ [e]) := by
  have hl : (kept ++ (more ++ [e])).length = kept.length + more.length + 1 := by simp; omega
  have hl2 : (kept ++ more).length = kept.length + more.length := by simp
  refine ⟨fun p hp => ?_, fun p hp => ?_⟩
  · by_cases c : p = nparts st + (kept.length + more.length)
    · have hb := bodyAt_hi (st := st) (l := kept ++ more) (m := [e]) (j := 0)
      rw [hl2, Nat.add_zero] at hb
      rw [← List.append_assoc, c, hb]
      refine lk_of ?_
      rw [h, if_pos rfl]; rfl
    · have h1 := R.has p (by omega)
      rw [← List.append_assoc, bodyAt_lo (by omega), ← h1]
      unfold lk
      rw [h p, if_neg c]
  · have h1 := R.fin p (by omega)
    rw [← h1]
    unfold lk
    rw [h p, if_neg (by omega)]
/-! ### New disks -/
theorem rdv_new {n : Nat} (i : Int) : (dec (rdv (dnew n) i).1).2 = false := by
  have e : rdv (dnew n) i = if 0 ≤ i ∧ i < (n : Int) then (List.replicate 64 0, 0) else ([], 3) := by
    unfold rdv base baseS dnew
    rw [List.foldl_nil, List.length_replicate]
    by_cases c : 0 ≤ i ∧ i < (n : Int)
    · rw [if_pos c, if_pos c, if_neg (by simp [mget]), List.getD_eq_getElem?_getD, List.getElem?_replicate, if_pos (by omega)]; rfl
    · rw [if_neg c, if_neg c]
  rw [e]
  split
  · exact dec0 64
  · exact dec0 0
theorem fa_new {n : Nat} (a lim : Int) (p : Nat) : fa (rdv (dnew n)) a lim p = none := fa_zero (rdv_new _)
theorem rdR_new {n : Nat} (a lim : Int) : rdR (fa (rdv (dnew n)) a lim) lim = (RG0, false) := rdR_off fun s h => by rw [fa_new] at h; cases h
/-! ### The greatest -/
theorem gr_one {f : Nat → Option api_Sector} {g : Int} (hg : 1 ≤ g) (h : ∀ p s, f p = some s → s.Gen = g) {s0 : api_Sector} (h0 : f 0 = some s0) : ∀ k, gr f (k + 1) = g
  | 0 => by
    show (match f 0 with | some s => max 0 s.Gen | none => 0) = g
    rw [h0]
    have := h 0 s0 h0
    dsimp only
    rw [this]
    exact Int.max_eq_right (by omega)
  | k + 1 => by
    show (match f (k + 1) with | some s => max (gr f (k + 1)) s.Gen | none => gr f (k + 1)) = g
    rw [gr_one hg h h0 k]
    cases e : f (k + 1) with
    | none => rfl
    | some s =>
      have := h _ s e
      dsimp only
      rw [this]
      exact Int.max_self g
/-! ### A crash -/
theorem cr_wrs (keep : List Bool) (tear a i : Int) : ∀ (xs : List (List Int)) (p k : Nat) (v : List Int × Int), Full xs → crV keep tear i k v (wrs a p xs) = if a + (p : Int) ≤ i ∧ i < a + (p : Int) + (xs.length : Int) then (if ((k + (i - a - (p : Int)).toNat : Nat) : Int) = tear then ([], 41) else if keep.getD (k + (i - a - (p : Int)).toNat) false = true then (xs.getD (i - a - (p : Int)).toNat [], 0) else v) else v
  | [], p, k, v, _ => by
    rw [wrs, if_neg (by simp only [List.length_nil]; omega)]; rfl
  | x :: xs, p, k, v, h => by
    have hx := h x List.mem_cons_self
    show crV keep tear i (k + 1) (cv1 keep tear i k v ⟨a + (p : Int), Arr.of 64 (x.take 64)⟩) (wrs a (p + 1) xs) = _
    rw [cr_wrs keep tear a i xs (p + 1) (k + 1) _ h.tail]
    unfold cv1 upd1
    dsimp only
    rw [arr_of hx.1 hx.2, List.length_cons]
    by_cases c : a + (p : Int) = i
    · have h2 : a + (p : Int) ≤ i ∧ i < a + (p : Int) + ((xs.length + 1 : Nat) : Int) := by omega
      rw [if_neg (by omega), if_pos c, if_pos c, if_pos h2, show (i - a - (p : Int)).toNat = 0 by omega]
      rfl
    · rw [if_neg c, if_neg c]
      by_cases c2 : a + ((p + 1 : Nat) : Int) ≤ i ∧ i < a + ((p + 1 : Nat) : Int) + (xs.length : Int)
      · have h2 : a + (p : Int) ≤ i ∧ i < a + (p : Int) + ((xs.length + 1 : Nat) : Int) := by omega
        rw [if_pos c2, if_pos h2, show k + (i - a - (p : Int)).toNat = k + 1 + (i - a - ((p + 1 : Nat) : Int)).toNat by omega, show (i - a - (p : Int)).toNat = (i - a - ((p + 1 : Nat) : Int)).toNat + 1 by omega, List.getD_cons_succ]
        have e : (if (k : Int) = tear then v else if keep.getD k false = true then v else v) = v := by split <;> first | rfl | (split <;> rfl)
        rw [e]
      · have h2 : ¬ (a + (p : Int) ≤ i ∧ i < a + (p : Int) + ((xs.length + 1 : Nat) : Int)) := by omega
        rw [if_neg c2, if_neg h2]
        split <;> first | rfl | (split <;> rfl)
/-- Put, where there is room and nothing stands still. -/
theorem put_fine {n : Nat} {d : disk_Disk} (W : WFd n d) (hf : d.fuse ≠ 0) {a lim gen : Int} {st : List Int} {kept more : List (List Int)} {e : List Int} (L : LayOk gen st kept lim) (he : enOk e) (heb : Bytes e) (ha : 0 ≤ a) (hin : a + lim ≤ (n : Int)) (hn : n ≤ 4096) (hq : ((nparts st + (kept.length + more.length) : Nat) : Int) < lim) :
    wr d (a + ((nparts st + (kept.length + more.length) : Nat) : Int)) (putOf (entAt gen st kept more e)) = (0, ⟨d.sectors, d.torn, d.pending ++ [⟨a + ((nparts st + (kept.length + more.length) : Nat) : Int), Arr.of 64 ((putOf (entAt gen st kept more e)).take 64)⟩], (lower d).fuse⟩) ∧
    (∀ p, fa (rdv (wr d (a + ((nparts st + (kept.length + more.length) : Nat) : Int)) (putOf (entAt gen st kept more e))).2) a lim p = if p = nparts st + (kept.length + more.length) then some (entAt gen st kept more e) else fa (rdv d) a lim p) ∧
    (∀ i, (i < a ∨ a + lim ≤ i) → rdv (wr d (a + ((nparts st + (kept.length + more.length) : Nat) : Int)) (putOf (entAt gen st kept more e))).2 i = rdv d i) := by
  have hr := entAt_right (more := more) L he (by omega)
  have hF := entAt_full (more := more) L he heb (by omega)
  have hl : ((putOf (entAt gen st kept more e)).length : Int) = 64 := by rw [hF.1]; rfl
  have hi : 0 ≤ a + ((nparts st + (kept.length + more.length) : Nat) : Int) ∧ a + ((nparts st + (kept.length + more.length) : Nat) : Int) < (d.sectors.length : Int) := by rw [W.len]; omega
  refine ⟨wr_ok hf hl hi, fun p => ?_, fun i hi2 => ?_⟩
  · have e2 := rdv_wr hf hl hi (a + (p : Int))
    rw [arr_of hF.1 hF.2] at e2
    by_cases c : p = nparts st + (kept.length + more.length)
    · rw [if_pos c]
      rw [if_pos (by omega)] at e2
      exact fa_put e2 hr heb (by omega) ha
    · rw [if_neg c]
      rw [if_neg (by omega)] at e2
      exact fa_same e2
  · rw [rdv_wr hf hl hi, if_neg (by omega)]
end Go.Proofs.Ytpmkpiffbdcflaa
