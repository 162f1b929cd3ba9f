/- Stores, plain: what a crash leaves of a half. -/
import Derived.Test.YtpmkpiffbdcflaaStoA
set_option linter.unusedVariables false
set_option linter.unusedSimpArgs false
namespace Go.Proofs.Ytpmkpiffbdcflaa
open Go Go.RowKit
/-! ### When a region is whole -/
theorem rdR_valid {f : Nat → Option api_Sector} {lim : Int} (hr : ∀ s, f 0 = some s → RtP s) : (rdR f lim).2 = true ↔ ∃ s, f 0 = some s ∧ s.Parts + s.Kept ≤ lim ∧ ∀ p : Nat, (p : Int) < s.Parts + s.Kept → ∃ b, lk f s p = some b ∧ ((p : Int) + 1 < s.Parts → ¬ b.length < 50) := by
  unfold rdR
  cases e : f 0 with
  | none =>
    constructor
    · intro h; cases h
    · rintro ⟨s, h, _⟩; cases h
  | some s =>
    dsimp only
    obtain ⟨_, _, ⟨p1, p2⟩, ⟨q1, q2⟩, _⟩ := hr s e
    have hat := rows_at f s 5000 0
    have hend := rows_end f s 5000 0
    generalize rows f s 5000 0 = R at hat hend ⊢
    constructor
    · intro h
      by_cases c1 : s.Parts + s.Kept > lim
      · rw [if_pos c1] at h; cases h
      · rw [if_neg c1] at h
        by_cases c2 : (R.length : Int) < s.Parts + s.Kept ∨ (R.take (s.Parts.toNat - 1)).any (fun b => decide (b.length < 50)) = true
        · rw [if_pos c2] at h; cases h
        · refine ⟨s, rfl, by omega, fun p hp => ?_⟩
          have h1 : ¬ (R.length : Int) < s.Parts + s.Kept := fun h => c2 (.inl h)
          have hlt : p < R.length := by omega
          have h2 := hat p hlt
          rw [Nat.zero_add, List.getElem?_eq_getElem hlt] at h2
          refine ⟨_, h2, fun h3 h4 => c2 (.inr (List.any_eq_true.2 ⟨R[p], List.mem_take_iff_getElem.2 ⟨p, by omega, rfl⟩, decide_eq_true h4⟩))⟩
    · rintro ⟨s', hs', h1, h2⟩
      obtain rfl := Option.some.inj hs'
      rw [if_neg (by omega)]
      have h3 : ¬ ((R.length : Int) < s.Parts + s.Kept ∨ (R.take (s.Parts.toNat - 1)).any (fun b => decide (b.length < 50)) = true) := by
        rintro (h | h)
        · obtain ⟨b, hb, _⟩ := h2 R.length h
          have := hend (by omega)
          rw [Nat.zero_add, hb] at this
          cases this
        · obtain ⟨b, hb1, hb2⟩ := List.any_eq_true.1 h
          obtain ⟨j, hj, rfl⟩ := List.mem_take_iff_getElem.1 hb1
          obtain ⟨b', hb', h4⟩ := h2 j (by omega)
          have h5 := hat j (by omega)
          rw [Nat.zero_add, hb', List.getElem?_eq_getElem (by omega)] at h5
          have h5 := Option.some.inj h5
          rw [h5] at h4
          exact h4 (by omega) (of_decide_eq_true hb2)
      rw [if_neg h3]
theorem rdR_gen {f : Nat → Option api_Sector} {lim : Int} (h : (rdR f lim).2 = true) : ∃ s, f 0 = some s ∧ (rdR f lim).1.Gen = s.Gen := by
  unfold rdR at h ⊢
  cases e : f 0 with
  | none => rw [e] at h; cases h
  | some s =>
    rw [e] at h
    dsimp only at h ⊢
    by_cases c1 : s.Parts + s.Kept > lim
    · rw [if_pos c1] at h; cases h
    · rw [if_neg c1] at h ⊢
      split at h
      · cases h
      · rename_i c2
        rw [if_neg c2]
        exact ⟨s, rfl, rfl⟩
theorem rdR_bad {f : Nat → Option api_Sector} {lim : Int} (h : (rdR f lim).2 = false) : rdR f lim = (RG0, false) := by
  unfold rdR at h ⊢
  cases e : f 0 with
  | none => rfl
  | some s =>
    rw [e] at h
    dsimp only at h ⊢
    by_cases c1 : s.Parts + s.Kept > lim
    · rw [if_pos c1]
    · rw [if_neg c1] at h ⊢
      split at h
      · rename_i c2
        rw [if_pos c2]
      · cases h
/-- Some sectors of a new region among elder ones. -/
theorem mix {f0 f' : Nat → Option api_Sector} {g lim : Int} {st : List Int} {ents : List (List Int)} (L : LayOk g st ents lim) (hr0 : ∀ p s, f0 p = some s → RtP s ∧ s.Gen < g)
    (hm : ∀ p, f' p = f0 p ∨ f' p = none ∨ (p < nparts st + ents.length ∧ f' p = some (secAt g st ents p))) :
    rdR f' lim = (⟨g, st, ents, []⟩, true) ∨ ((rdR f' lim).2 = true → (rdR f0 lim).2 = true ∧ (rdR f' lim).1.Gen = (rdR f0 lim).1.Gen) := by
  have hP := np_le L.s
  have hk := L.k
  by_cases hall : ∀ p, p < nparts st + ents.length → f' p = some (secAt g st ents p)
  · left
    have RA : RgA f' g st ents [] := by
      refine ⟨fun p hp => ?_, fun p hp => ?_⟩
      · rw [List.append_nil] at hp ⊢
        exact lk_of (hall p hp)
      · rw [List.append_nil] at hp
        refine lk_far fun s hs => ?_
        have hs2 : f0 p = some s := by
          rcases hm p with h | h | ⟨h, _⟩
          · rw [← h]; exact hs
          · rw [h] at hs; cases hs
          · omega
        exact fun h => by
          have h1 := (hr0 p s hs2).2
          rw [h] at h1
          exact absurd h1 (Int.lt_irrefl _)
    exact RA.rg.read L.s (by rw [List.append_nil]; omega) L.r
  · right
    intro hv
    have hr' : ∀ s, f' 0 = some s → RtP s := by
      intro s hs
      rcases hm 0 with h | h | ⟨h, h2⟩
      · exact (hr0 0 s (by rw [← h]; exact hs)).1
      · rw [h] at hs; cases hs
      · rw [h2] at hs
        rw [← Option.some.inj hs]
        exact secAt_right L.g L.s L.e L.k h
    obtain ⟨s, hs, h1, h2⟩ := (rdR_valid hr').1 hv
    obtain ⟨s2, hs2, hg2⟩ := rdR_gen hv
    rcases hm 0 with h | h | ⟨hK, h⟩
    · have hs0 : f0 0 = some s := by rw [← h]; exact hs
      have hv0 : (rdR f0 lim).2 = true := by
        refine (rdR_valid fun s hs => (hr0 0 s hs).1).2 ⟨s, hs0, h1, fun p hp => ?_⟩
        obtain ⟨b, hb, h3⟩ := h2 p hp
        refine ⟨b, ?_, h3⟩
        obtain ⟨t, ht, _, tg, _⟩ := lk_some hb
        rcases hm p with h | h | ⟨_, h⟩
        · rw [← hb]; unfold lk; rw [h]
        · rw [h] at ht; cases ht
        · rw [h] at ht
          have := (hr0 0 s hs0).2
          rw [← tg, ← Option.some.inj ht] at this
          exact absurd this (Int.lt_irrefl _)
      refine ⟨hv0, ?_⟩
      obtain ⟨s3, hs3, hg3⟩ := rdR_gen hv0
      rw [hg2, hg3]
      rw [hs0] at hs3
      rw [hs] at hs2
      rw [← Option.some.inj hs3, ← Option.some.inj hs2]
    · rw [h] at hs; cases hs
    · exfalso
      rw [h] at hs
      obtain rfl := Option.some.inj hs
      refine hall fun p hp => ?_
      obtain ⟨b, hb, _⟩ := h2 p (by show (p : Int) < (nparts st : Int) + (ents.length : Int); omega)
      obtain ⟨t, ht, _, tg, _⟩ := lk_some hb
      rcases hm p with h | h | ⟨_, h⟩
      · have := (hr0 p t (by rw [← h]; exact ht)).2
        rw [tg] at this
        exact absurd this (Int.lt_irrefl _)
      · rw [h] at ht; cases ht
      · exact h
/-! ### Two runs of writes, and a crash -/
theorem wrs_snoc (a : Int) (x : List Int) : ∀ (xs : List (List Int)) (p : Nat), wrs a p (xs ++ [x]) = wrs a p xs ++ [⟨a + ((p + xs.length : Nat) : Int), Arr.of 64 (x.take 64)⟩]
  | [], p => rfl
  | y :: xs, p => by
    rw [List.cons_append, wrs, wrs_snoc a x xs (p + 1), wrs, List.length_cons, show p + 1 + xs.length = p + (xs.length + 1) by omega]
    rfl
theorem crV_app (keep : List Bool) (tear i : Int) : ∀ (ps qs : List disk_write) (k : Nat) (v : List Int × Int), crV keep tear i k v (ps ++ qs) = crV keep tear i (k + ps.length) (crV keep tear i k v ps) qs
  | [], _, _, _ => rfl
  | p :: ps, qs, k, v => by
    show crV keep tear i (k + 1) (cv1 keep tear i k v p) (ps ++ qs) = _
    rw [crV_app keep tear i ps qs (k + 1), List.length_cons, show k + 1 + ps.length = k + (ps.length + 1) by omega]
    rfl
def In (a : Int) (p len : Nat) (i : Int) : Prop := a + (p : Int) ≤ i ∧ i < a + (p : Int) + (len : Int)
instance (a : Int) (p len : Nat) (i : Int) : Decidable (In a p len i) := inferInstanceAs (Decidable (_ ∧ _))
theorem cr_in (keep : List Bool) (tear a i : Int) {xs : List (List Int)} (p k : Nat) (v : List Int × Int) (hF : Full xs) (h : In a p xs.length i) : crV keep tear i k v (wrs a p xs) = ([], 41) ∨ crV keep tear i k v (wrs a p xs) = (xs.getD (i - a - (p : Int)).toNat [], 0) ∨ crV keep tear i k v (wrs a p xs) = v := by
  unfold In at h
  rw [cr_wrs keep tear a i xs p k v hF, if_pos h]
  split
  · exact .inl rfl
  · split
    · exact .inr (.inl rfl)
    · exact .inr (.inr rfl)
theorem cr_out (keep : List Bool) (tear a i : Int) {xs : List (List Int)} (p k : Nat) (v : List Int × Int) (hF : Full xs) (h : ¬ In a p xs.length i) : crV keep tear i k v (wrs a p xs) = v := by
  unfold In at h
  rw [cr_wrs keep tear a i xs p k v hF, if_neg h]
/-- The sectors of entries, from a place on. -/
def enS (g : Int) (st : List Int) (kept : List (List Int)) : Nat → List (List Int) → List (List Int)
  | _, [] => []
  | q, e :: es => putOf ⟨g, (q : Int), (nparts st : Int), (kept.length : Int), e⟩ :: enS g st kept (q + 1) es
theorem enS_len (g : Int) (st : List Int) (kept : List (List Int)) : ∀ (es : List (List Int)) (q : Nat), (enS g st kept q es).length = es.length
  | [], _ => rfl
  | e :: es, q => by rw [enS, List.length_cons, enS_len g st kept es, List.length_cons]
theorem enS_snoc (g : Int) (st : List Int) (kept : List (List Int)) (e : List Int) : ∀ (es : List (List Int)) (q : Nat), enS g st kept q (es ++ [e]) = enS g st kept q es ++ [putOf ⟨g, ((q + es.length : Nat) : Int), (nparts st : Int), (kept.length : Int), e⟩]
  | [], q => rfl
  | x :: es, q => by
    rw [List.cons_append, enS, enS_snoc g st kept e es (q + 1), enS, List.length_cons, show q + 1 + es.length = q + (es.length + 1) by omega]
    rfl
theorem enS_at (g : Int) (st : List Int) (kept : List (List Int)) : ∀ (es : List (List Int)) (q j : Nat), j < es.length → (enS g st kept q es).getD j [] = putOf ⟨g, ((q + j : Nat) : Int), (nparts st : Int), (kept.length : Int), es.getD j []⟩
  | [], _, j, h => absurd h (Nat.not_lt_zero j)
  | e :: es, q, 0, _ => rfl
  | e :: es, q, j + 1, h => by
    rw [enS, List.getD_cons_succ, enS_at g st kept es (q + 1) j (by simpa using h), List.getD_cons_succ, show q + 1 + j = q + (j + 1) by omega]
theorem ent_right {g lim : Int} {st : List Int} {kept : List (List Int)} {e : List Int} {q : Nat} (L : LayOk g st kept lim) (he : enOk e) (hq : q ≤ 4096) : RtP ⟨g, (q : Int), (nparts st : Int), (kept.length : Int), e⟩ := by
  have hp := np_le L.s
  have hk := L.k
  exact ⟨L.g, ⟨by show 0 ≤ (q : Int); omega, by show (q : Int) ≤ 4096; omega⟩, ⟨by show 1 ≤ (nparts st : Int); omega, by show (nparts st : Int) ≤ 32; omega⟩, ⟨by show 0 ≤ (kept.length : Int); omega, by show (kept.length : Int) ≤ 1000; omega⟩, he⟩
theorem enS_full {g lim : Int} {st : List Int} {kept : List (List Int)} (L : LayOk g st kept lim) : ∀ (es : List (List Int)) (q : Nat), (∀ e ∈ es, enOk e ∧ Bytes e) → q + es.length ≤ 4096 → Full (enS g st kept q es)
  | [], _, _, _ => fun x hx => by cases hx
  | e :: es, q, h, hq => by
    rw [List.length_cons] at hq
    intro x hx
    rw [enS] at hx
    rcases List.mem_cons.1 hx with rfl | hx
    · have he := h e List.mem_cons_self
      have hr := ent_right L he.1 (q := q) (by omega)
      exact ⟨by unfold putOf; rw [if_pos hr, enc_len hr.2.2.2.2.2], putOf_bytes he.2⟩
    · exact enS_full L es (q + 1) (fun y hy => h y (List.mem_cons_of_mem _ hy)) (by omega) x hx
/-- The first place that is so. -/
theorem least {P : Nat → Prop} : ∀ (N : Nat), P N → ∃ j, j ≤ N ∧ P j ∧ ∀ i, i < j → ¬ P i
  | 0, h => ⟨0, Nat.le_refl _, h, fun i hi => absurd hi (Nat.not_lt_zero i)⟩
  | N + 1, h => by
    by_cases c : ∃ i, i ≤ N ∧ P i
    · obtain ⟨i, hi, hP⟩ := c
      obtain ⟨j, h1, h2, h3⟩ := least i hP
      exact ⟨j, by omega, h2, h3⟩
    · exact ⟨N + 1, Nat.le_refl _, h, fun i hi hP => c ⟨i, by omega, hP⟩⟩
/-- What a crash leaves of the current half: the first ones of what was appended. -/
theorem cur_crash {f0 f' : Nat → Option api_Sector} {g lim : Int} {st : List Int} {kept m1 m2 : List (List Int)} (L : LayOk g st kept lim) (R : RgA f0 g st kept m1) (hfit : ((nparts st + (kept.length + (m1.length + m2.length)) : Nat) : Int) ≤ lim) (hlim : lim ≤ 4096)
    (hlo : ∀ p, p < nparts st + (kept.length + m1.length) ∨ nparts st + (kept.length + (m1.length + m2.length)) ≤ p → f' p = f0 p)
    (hmid : ∀ j, j < m2.length → f' (nparts st + (kept.length + m1.length) + j) = none ∨ f' (nparts st + (kept.length + m1.length) + j) = f0 (nparts st + (kept.length + m1.length) + j) ∨ f' (nparts st + (kept.length + m1.length) + j) = some ⟨g, ((nparts st + (kept.length + m1.length) + j : Nat) : Int), (nparts st : Int), (kept.length : Int), m2.getD j []⟩) :
    ∃ j, j ≤ m2.length ∧ rdR f' lim = (⟨g, st, kept, m1 ++ m2.take j⟩, true) := by
  have hend : lk f' (hdr g st kept) (nparts st + (kept.length + m1.length) + m2.length) = none := by
    have h := R.fin (nparts st + (kept.length + m1.length) + m2.length) (by rw [List.length_append]; omega)
    rw [← h]
    unfold lk
    rw [hlo _ (.inr (by omega))]
  obtain ⟨j, hj, h1, h2⟩ := least (P := fun j => lk f' (hdr g st kept) (nparts st + (kept.length + m1.length) + j) = none) m2.length hend
  refine ⟨j, hj, ?_⟩
  have hl : (kept ++ (m1 ++ m2.take j)).length = kept.length + (m1.length + j) := by rw [List.length_append, List.length_append, List.length_take]; omega
  have RG : Rg f' g st kept (m1 ++ m2.take j) := by
    refine ⟨fun p hp => ?_, ?_⟩
    · rw [hl] at hp
      by_cases c : p < nparts st + (kept.length + m1.length)
      · have h3 := R.has p (by rw [List.length_append]; exact c)
        rw [← List.append_assoc, bodyAt_lo (by rw [List.length_append]; exact c), ← h3]
        unfold lk
        rw [hlo p (.inl c)]
      · obtain ⟨i, rfl⟩ : ∃ i, p = nparts st + (kept.length + m1.length) + i := ⟨p - (nparts st + (kept.length + m1.length)), by omega⟩
        have h3 := h2 i (by omega)
        have h4 := bodyAt_hi (st := st) (l := kept ++ m1) (m := m2.take j) (j := i)
        rw [List.length_append, ← Nat.add_assoc] at h4
        rw [← List.append_assoc, h4]
        rw [List.getD_eq_getElem?_getD, List.getElem?_take, if_pos (by omega), ← List.getD_eq_getElem?_getD]
        rcases hmid i (by omega) with h | h | h
        · exact absurd (lk_off h) h3
        · refine absurd ?_ h3
          have h5 := R.fin (nparts st + (kept.length + m1.length) + i) (by rw [List.length_append]; omega)
          rw [← h5]
          unfold lk
          rw [h]
        · exact lk_of h
    · rw [hl, show nparts st + (kept.length + (m1.length + j)) = nparts st + (kept.length + m1.length) + j by omega]
      exact h1
  exact RG.read L.s (by rw [hl]; omega) L.r
end Go.Proofs.Ytpmkpiffbdcflaa
