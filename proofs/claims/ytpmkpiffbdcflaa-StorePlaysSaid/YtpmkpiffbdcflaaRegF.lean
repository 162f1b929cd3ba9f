/- Regions, plain: Lay and Put, whole. -/
import Derived.Test.YtpmkpiffbdcflaaRegE
set_option linter.unusedVariables false
set_option linter.unusedSimpArgs false
namespace Go.Proofs.Ytpmkpiffbdcflaa
open Go Go.RowKit
theorem layW_cons (a : Int) (p : Nat) (d : disk_Disk) (x : List Int) (xs : List (List Int)) : layW a p d (x :: xs) = if (wr d (a + (p : Int)) x).1 ≠ 0 then wr d (a + (p : Int)) x else layW a (p + 1) (wr d (a + (p : Int)) x).2 xs := rfl
theorem lay_b1 {n : Nat} {a gen : Int} (ha : -4611686018427387904 ≤ a ∧ a < 4611686018427387904) {st : List Int} {ents : List (List Int)} (hs : stOk st) (hsb : Bytes st) (hl : ents.length ≤ 1000) {d : disk_Disk} (W : WFd n d) (hp : d.pending.length ≤ 500000) :
    ∃ r, lp (region_Lay_b1 a gen st ents (nparts st : Int)) (0, d) = some r ∧
      ((∃ x, r = .inl ((nparts st : Int), x) ∧ WFd n x ∧ x.pending.length ≤ d.pending.length + nparts st ∧ layW a (nparts st) x ((secs gen st ents).drop (nparts st)) = layW a 0 d (secs gen st ents)) ∨ r = .inr (layW a 0 d (secs gen st ents))) := by
  have hP : nparts st ≤ 32 := by obtain ⟨h1, h2⟩ := hs; unfold nparts; omega
  refine lp_run (fun k (s : Int × disk_Disk) => s.1 = (k : Int) ∧ WFd n s.2 ∧ s.2.pending.length ≤ d.pending.length + k ∧ layW a k s.2 ((secs gen st ents).drop k) = layW a 0 d (secs gen st ents)) _ (nparts st) (by omega) ⟨rfl, W, Nat.le_refl _, rfl⟩ ?_ ?_
  · rintro k ⟨x, e⟩ hk ⟨hx, We, hpe, hL⟩
    dsimp only at hx We hpe hL
    subst hx
    have hst : 50 * k ≤ st.length := by obtain ⟨h1, h2⟩ := hs; unfold nparts at hk; omega
    have hpc : (st.take (min (IntKind.i64.wrap (50 * (IntKind.i64.wrap ((k : Int) + 1)))) (st.length : Int)).toNat).drop (IntKind.i64.wrap (50 * (k : Int))).toNat = piece st k := by
      rw [w64 (x := (k : Int) + 1) (by omega) (by omega), w64 (x := 50 * ((k : Int) + 1)) (by omega) (by omega), w64 (x := 50 * (k : Int)) (by omega) (by omega)]
      unfold piece
      rw [show (50 * (k : Int)).toNat = 50 * k by omega]
      by_cases c : 50 * (k + 1) ≤ st.length
      · rw [show (min (50 * ((k : Int) + 1)) (st.length : Int)).toNat = 50 * (k + 1) by omega]
      · rw [show (min (50 * ((k : Int) + 1)) (st.length : Int)).toNat = st.length by omega, List.take_length, List.take_of_length_le (by omega : st.length ≤ 50 * (k + 1))]
    rw [drop_some (secs_lo hk)] at hL
    have Ww := We.wr (a + (k : Int)) (putOf ⟨gen, (k : Int), (nparts st : Int), (ents.length : Int), piece st k⟩)
    have hguard : 0 ≤ IntKind.i64.wrap (50 * (k : Int)) ∧ IntKind.i64.wrap (50 * (k : Int)) ≤ min (IntKind.i64.wrap (50 * (IntKind.i64.wrap ((k : Int) + 1)))) (st.length : Int) ∧ min (IntKind.i64.wrap (50 * (IntKind.i64.wrap ((k : Int) + 1)))) (st.length : Int) ≤ (st.length : Int) := by
      rw [w64 (x := (k : Int) + 1) (by omega) (by omega), w64 (x := 50 * ((k : Int) + 1)) (by omega) (by omega), w64 (x := 50 * (k : Int)) (by omega) (by omega)]
      omega
    have hrun : region_Lay_b1 a gen st ents (nparts st : Int) ((k : Int), e) = if (wr e (a + (k : Int)) (putOf ⟨gen, (k : Int), (nparts st : Int), (ents.length : Int), piece st k⟩)).1 ≠ 0 then some (.inr (.inr ((wr e (a + (k : Int)) (putOf ⟨gen, (k : Int), (nparts st : Int), (ents.length : Int), piece st k⟩)).1, (wr e (a + (k : Int)) (putOf ⟨gen, (k : Int), (nparts st : Int), (ents.length : Int), piece st k⟩)).2))) else some (.inl (((k + 1 : Nat) : Int), (wr e (a + (k : Int)) (putOf ⟨gen, (k : Int), (nparts st : Int), (ents.length : Int), piece st k⟩)).2)) := by
      unfold region_Lay_b1
      dsimp only
      rw [if_pos (by omega), if_pos hguard, hpc, Put_run _ (piece_bytes hsb k)]
      dsimp only [Option.bind_some]
      rw [w64 (x := a + (k : Int)) (by omega) (by omega), write_eq _ _ _ (by omega)]
      dsimp only [Option.bind_some]
      rw [w64n (by omega)]
    rw [hrun]
    show (∃ s', _) ∨ _
    rw [layW_cons] at hL
    by_cases c : (wr e (a + (k : Int)) (putOf ⟨gen, (k : Int), (nparts st : Int), (ents.length : Int), piece st k⟩)).1 ≠ 0
    · rw [if_pos c] at hL ⊢
      exact .inr ⟨_, rfl, .inr (by rw [← hL])⟩
    · rw [if_neg c] at hL ⊢
      exact .inl ⟨_, rfl, rfl, Ww.1, by have := Ww.2; dsimp only; omega, hL⟩
  · rintro ⟨x, e⟩ ⟨hx, We, hpe, hL⟩
    dsimp only at hx We hpe hL
    subst hx
    refine ⟨.inl ((nparts st : Int), e), ?_, .inl ⟨e, rfl, We, hpe, hL⟩⟩
    unfold region_Lay_b1
    dsimp only
    rw [if_neg (by omega)]
theorem lay_b2 {n : Nat} {a gen : Int} (ha : -4611686018427387904 ≤ a ∧ a < 4611686018427387904) {st : List Int} {ents : List (List Int)} (hs : stOk st) (heb : ∀ e ∈ ents, Bytes e) (hl : ents.length ≤ 1000) {d : disk_Disk} (W : WFd n d) (hp : d.pending.length ≤ 600000) :
    ∃ r, lp (region_Lay_b2 a gen ents (nparts st : Int)) (0, (nparts st : Int), d) = some r ∧
      ((∃ x, r = .inl x ∧ layW a (nparts st) d ((secs gen st ents).drop (nparts st)) = (0, x)) ∨ r = .inr (layW a (nparts st) d ((secs gen st ents).drop (nparts st)))) := by
  have hP : nparts st ≤ 32 := by obtain ⟨h1, h2⟩ := hs; unfold nparts; omega
  refine lp_run (fun k (s : Int × Int × disk_Disk) => s.1 = (k : Int) ∧ s.2.1 = ((nparts st + k : Nat) : Int) ∧ WFd n s.2.2 ∧ s.2.2.pending.length ≤ d.pending.length + k ∧ layW a (nparts st + k) s.2.2 ((secs gen st ents).drop (nparts st + k)) = layW a (nparts st) d ((secs gen st ents).drop (nparts st))) _ ents.length (by omega) ⟨rfl, rfl, W, Nat.le_refl _, rfl⟩ ?_ ?_
  · rintro k ⟨x, y, e⟩ hk ⟨hx, hy, We, hpe, hL⟩
    dsimp only at hx hy We hpe hL
    subst hx hy
    rw [drop_some (secs_hi hk)] at hL
    have Ww := We.wr (a + ((nparts st + k : Nat) : Int)) (putOf ⟨gen, ((nparts st + k : Nat) : Int), (nparts st : Int), (ents.length : Int), ents.getD k []⟩)
    have hrun : region_Lay_b2 a gen ents (nparts st : Int) ((k : Int), ((nparts st + k : Nat) : Int), e) = if (wr e (a + ((nparts st + k : Nat) : Int)) (putOf ⟨gen, ((nparts st + k : Nat) : Int), (nparts st : Int), (ents.length : Int), ents.getD k []⟩)).1 ≠ 0 then some (.inr (.inr ((wr e (a + ((nparts st + k : Nat) : Int)) (putOf ⟨gen, ((nparts st + k : Nat) : Int), (nparts st : Int), (ents.length : Int), ents.getD k []⟩)).1, (wr e (a + ((nparts st + k : Nat) : Int)) (putOf ⟨gen, ((nparts st + k : Nat) : Int), (nparts st : Int), (ents.length : Int), ents.getD k []⟩)).2))) else some (.inl (((k + 1 : Nat) : Int), ((nparts st + (k + 1) : Nat) : Int), (wr e (a + ((nparts st + k : Nat) : Int)) (putOf ⟨gen, ((nparts st + k : Nat) : Int), (nparts st : Int), (ents.length : Int), ents.getD k []⟩)).2)) := by
      unfold region_Lay_b2
      dsimp only
      rw [if_pos (by omega), if_pos (by omega), Int.toNat_natCast, Put_run _ (heb _ (getD_mem hk []))]
      dsimp only [Option.bind_some]
      rw [w64 (x := a + ((nparts st + k : Nat) : Int)) (by omega) (by omega), write_eq _ _ _ (by omega)]
      dsimp only [Option.bind_some]
      rw [w64n (by omega), w64n (by omega)]
      rfl
    rw [hrun]
    rw [layW_cons] at hL
    by_cases c : (wr e (a + ((nparts st + k : Nat) : Int)) (putOf ⟨gen, ((nparts st + k : Nat) : Int), (nparts st : Int), (ents.length : Int), ents.getD k []⟩)).1 ≠ 0
    · rw [if_pos c] at hL ⊢
      exact .inr ⟨_, rfl, .inr (by rw [← hL])⟩
    · rw [if_neg c] at hL ⊢
      exact .inl ⟨_, rfl, rfl, rfl, Ww.1, by have := Ww.2; dsimp only; omega, hL⟩
  · rintro ⟨x, y, e⟩ ⟨hx, hy, We, hpe, hL⟩
    dsimp only at hx hy We hpe hL
    subst hx hy
    rw [List.drop_of_length_le (by rw [secs_len]; exact Nat.le_refl _)] at hL
    refine ⟨.inl e, ?_, .inl ⟨e, rfl, hL.symm⟩⟩
    unfold region_Lay_b2
    dsimp only
    rw [if_neg (by omega)]
/-- What Lay answers. -/
def layV (d : disk_Disk) (a lim gen : Int) (st : List Int) (ents : List (List Int)) : Int × disk_Disk :=
  if gen < 1 ∨ gen > 281474976710656 ∨ ¬ stOk st ∨ (ents.length : Int) > 1000 ∨ ¬ (∀ e ∈ ents, enOk e) then (1, d) else
    if (nparts st : Int) + (ents.length : Int) > lim then (5, d) else layW a 0 d (secs gen st ents)
theorem lay_eq {n : Nat} {a lim gen : Int} (ha : -4611686018427387904 ≤ a ∧ a < 4611686018427387904) {st : List Int} {ents : List (List Int)} (hsb : Bytes st) (heb : ∀ e ∈ ents, Bytes e) {d : disk_Disk} (W : WFd n d) (hp : d.pending.length ≤ 500000) : region_Lay_f d a lim gen st ents = some (layV d a lim gen st ents) := by
  unfold region_Lay_f layV
  by_cases c1 : gen < 1
  · rw [if_pos c1, if_pos (.inl c1)]
  · rw [if_neg c1]
    by_cases c2 : gen > 281474976710656
    · rw [if_pos c2, if_pos (.inr (.inl c2))]
    · rw [if_neg c2, state_eq]
      dsimp only [Option.bind_some]
      by_cases c3 : stOk st
      · rw [if_pos (decide_eq_true c3)]
        by_cases c4 : (ents.length : Int) > 1000
        · rw [if_pos c4, if_pos (.inr (.inr (.inr (.inl c4))))]
        · rw [if_neg c4, ents_eq d ents (by omega)]
          by_cases c5 : ∀ e ∈ ents, enOk e
          · rw [if_pos c5]
            have c6 : ¬ (gen < 1 ∨ gen > 281474976710656 ∨ ¬ stOk st ∨ (ents.length : Int) > 1000 ∨ ¬ (∀ e ∈ ents, enOk e)) := by
              rintro (h | h | h | h | h)
              · exact c1 h
              · exact c2 h
              · exact h c3
              · exact c4 h
              · exact h c5
            rw [if_neg c6]
            dsimp only [Option.bind_some]
            rw [parts_eq c3]
            dsimp only [Option.bind_some]
            have hP : nparts st ≤ 32 := by obtain ⟨h1, h2⟩ := c3; unfold nparts; omega
            rw [w64 (x := (nparts st : Int) + (ents.length : Int)) (by omega) (by omega)]
            by_cases c7 : (nparts st : Int) + (ents.length : Int) > lim
            · rw [if_pos c7, if_pos c7]
            · rw [if_neg c7, if_neg c7]
              obtain ⟨r, h1, ⟨x, rfl, Wx, hpx, hL⟩ | rfl⟩ := lay_b1 (a := a) (gen := gen) (ents := ents) ha c3 hsb (by omega) W hp
              · rw [h1]
                dsimp only [Option.bind_some]
                obtain ⟨r, h2, ⟨y, rfl, hy⟩ | rfl⟩ := lay_b2 (a := a) (gen := gen) (ents := ents) ha c3 heb (by omega) Wx (by omega)
                · rw [h2, ← hL, hy]; rfl
                · rw [h2, hL]; rfl
              · rw [h1]; rfl
          · rw [if_neg c5, if_pos (.inr (.inr (.inr (.inr c5))))]; rfl
      · rw [if_neg (by simpa using c3), if_pos (.inr (.inr (.inl c3)))]
end Go.Proofs.Ytpmkpiffbdcflaa
