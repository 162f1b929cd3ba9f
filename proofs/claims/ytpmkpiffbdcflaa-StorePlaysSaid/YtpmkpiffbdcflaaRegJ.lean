/- Regions, plain: the reference's Lay and Put. -/
import Derived.Test.YtpmkpiffbdcflaaRegI
import Derived.Test.YtpmkpiffbdcflaaSecR
import Derived.Test.YtpmkpiffbdcflaaGRL
import Derived.Test.YtpmkpiffbdcflaaGRL
set_option linter.unusedVariables false
set_option linter.unusedSimpArgs false
namespace Go.Proofs.Ytpmkpiffbdcflaa
open Go Go.RowKit
theorem rstate_eq (st : List Int) : ref17_State_f st = some (decide (stOk st)) := by
  unfold ref17_State_f stOk
  by_cases c : (st.length : Int) ≥ 1
  · rw [if_pos c]
    dsimp only [Option.bind_some]
    congr 1
    exact decide_eq_decide.2 (by omega)
  · rw [if_neg c]
    dsimp only [Option.bind_some]
    congr 1
    exact (decide_eq_false (by omega)).symm
theorem rentry_eq (e : List Int) : ref17_Entry_f e = some (decide (enOk e)) := by
  unfold ref17_Entry_f enOk
  by_cases c : (e.length : Int) ≥ 1
  · rw [if_pos c]
    dsimp only [Option.bind_some]
    congr 1
    exact decide_eq_decide.2 (by omega)
  · rw [if_neg c]
    dsimp only [Option.bind_some]
    congr 1
    exact (decide_eq_false (by omega)).symm
theorem rparts_eq {st : List Int} (h : stOk st) : ref17_Parts_f st = some (nparts st : Int) := by
  obtain ⟨h1, h2⟩ := h
  unfold ref17_Parts_f nparts
  rw [w64 (x := (st.length : Int) + 50) (by omega) (by omega), w64 (x := (st.length : Int) + 50 - 1) (by omega) (by omega), Int.tdiv_eq_ediv_of_nonneg (by omega), w64 (by omega) (by omega)]
  congr 1
  omega
theorem rents_eq (d : ref15_Disk) (ents : List (List Int)) (hl : ents.length ≤ 1000) : lp (ref17_Lay_b0 d ents) 0 = some (if ∀ e ∈ ents, enOk e then .inl () else .inr (1, d)) := by
  have key : ∃ q, lp (ref17_Lay_b0 d ents) 0 = some q ∧ q = (if ∀ e ∈ ents, enOk e then .inl () else .inr (1, d)) := by
    refine lp_run (fun k (s : Int) => s = (k : Int) ∧ ∀ e ∈ ents.take k, enOk e) _ ents.length (by omega) ⟨rfl, by simp⟩ ?_ ?_
    · rintro k s hk ⟨rfl, ht⟩
      have hg : ents.getD k [] = ents[k] := by rw [List.getD_eq_getElem?_getD, List.getElem?_eq_getElem hk]; rfl
      by_cases e : enOk ents[k]
      · refine .inl ⟨((k + 1 : Nat) : Int), ?_, rfl, ?_⟩
        · unfold ref17_Lay_b0
          dsimp only
          rw [if_pos (by omega), if_pos (by omega), Int.toNat_natCast, rentry_eq, hg]
          dsimp only [Option.bind_some]
          rw [if_pos (decide_eq_true e), w64n (by omega)]
        · rw [take_snoc hk]
          intro x hx
          rcases List.mem_append.1 hx with hx | hx
          · exact ht x hx
          · rw [List.mem_singleton.1 hx]; exact e
      · refine .inr ⟨.inr (1, d), ?_, ?_⟩
        · unfold ref17_Lay_b0
          dsimp only
          rw [if_pos (by omega), if_pos (by omega), Int.toNat_natCast, rentry_eq, hg]
          dsimp only [Option.bind_some]
          rw [if_neg (by simpa using e)]
        · rw [if_neg fun h => e (h _ (List.getElem_mem hk))]
    · rintro s ⟨rfl, ht⟩
      rw [List.take_length] at ht
      refine ⟨.inl (), ?_, (if_pos ht).symm⟩
      unfold ref17_Lay_b0
      dsimp only
      rw [if_neg (by omega)]
  obtain ⟨q, h1, rfl⟩ := key
  exact h1
theorem piece_cut {st : List Int} (hs : stOk st) {k : Nat} (hk : k < nparts st) : (0 ≤ IntKind.i64.wrap (50 * (k : Int)) ∧ IntKind.i64.wrap (50 * (k : Int)) ≤ min (IntKind.i64.wrap ((IntKind.i64.wrap (50 * (k : Int))) + 50)) (st.length : Int) ∧ min (IntKind.i64.wrap ((IntKind.i64.wrap (50 * (k : Int))) + 50)) (st.length : Int) ≤ (st.length : Int)) ∧ ((st.take (min (IntKind.i64.wrap ((IntKind.i64.wrap (50 * (k : Int))) + 50)) (st.length : Int)).toNat).drop (IntKind.i64.wrap (50 * (k : Int))).toNat) = piece st k := by
  have hst : 50 * k ≤ st.length := by obtain ⟨h1, h2⟩ := hs; unfold nparts at hk; omega
  have hl : st.length ≤ 1600 := hs.2
  rw [w64 (x := 50 * (k : Int)) (by omega) (by omega), w64 (x := 50 * (k : Int) + 50) (by omega) (by omega)]
  refine ⟨by omega, ?_⟩
  unfold piece
  rw [show (50 * (k : Int)).toNat = 50 * k by omega]
  by_cases c : 50 * (k + 1) ≤ st.length
  · rw [show (min (50 * (k : Int) + 50) (st.length : Int)).toNat = 50 * (k + 1) by omega]
  · rw [show (min (50 * (k : Int) + 50) (st.length : Int)).toNat = st.length by omega, List.take_length, List.take_of_length_le (by omega : st.length ≤ 50 * (k + 1))]
theorem rlay_b1 {n : Nat} {a gen : Int} (ha : -4611686018427387904 ≤ a ∧ a < 4611686018427387904) {st : List Int} {ents : List (List Int)} (hs : stOk st) (hsb : Bytes st) (heb : ∀ e ∈ ents, Bytes e) (hl : ents.length ≤ 1000) {d : disk_Disk} {r : ref15_Disk} (R : Rf n d r) (W : WFd n d) (hp : d.pending.length ≤ 500000) :
    ∃ q, lp (ref17_Lay_b1 a gen st ents (nparts st : Int)) (0, r) = some q ∧ ∃ x, Rf n (layW a 0 d (secs gen st ents)).2 x ∧ ((q = .inl x ∧ (layW a 0 d (secs gen st ents)).1 = 0) ∨ q = .inr ((layW a 0 d (secs gen st ents)).1, x)) := by
  have hP : nparts st ≤ 32 := by obtain ⟨h1, h2⟩ := hs; unfold nparts; omega
  refine lp_run (fun k (s : Int × ref15_Disk) => s.1 = (k : Int) ∧ ∃ e, Rf n e s.2 ∧ WFd n e ∧ e.pending.length ≤ d.pending.length + k ∧ layW a k e ((secs gen st ents).drop k) = layW a 0 d (secs gen st ents)) _ (nparts st + ents.length) (by omega) ⟨rfl, d, R, W, Nat.le_refl _, rfl⟩ ?_ ?_
  · rintro k ⟨x, q⟩ hk ⟨hx, e, Re, We, hpe, hL⟩
    dsimp only at hx Re
    subst hx
    rw [drop_some (secs_at hk)] at hL
    have hbb := bodyAt_bytes hsb heb hk
    have Ww := We.wr (a + (k : Int)) (putOf ⟨gen, (k : Int), (nparts st : Int), (ents.length : Int), bodyAt st ents k⟩)
    obtain ⟨q', hq1, hq2⟩ := rwrite_eq Re We (by omega) (a + (k : Int)) (b := putOf ⟨gen, (k : Int), (nparts st : Int), (ents.length : Int), bodyAt st ents k⟩) (putOf_bytes hbb)
    have hrun : ref17_Lay_b1 a gen st ents (nparts st : Int) ((k : Int), q) = if (wr e (a + (k : Int)) (putOf ⟨gen, (k : Int), (nparts st : Int), (ents.length : Int), bodyAt st ents k⟩)).1 ≠ 0 then some (.inr (.inr ((wr e (a + (k : Int)) (putOf ⟨gen, (k : Int), (nparts st : Int), (ents.length : Int), bodyAt st ents k⟩)).1, q'))) else some (.inl (((k + 1 : Nat) : Int), q')) := by
      unfold ref17_Lay_b1
      dsimp only
      rw [w64 (x := (nparts st : Int) + (ents.length : Int)) (by omega) (by omega), if_pos (by omega)]
      have eb : ((if (k : Int) < (nparts st : Int) then (if 0 ≤ IntKind.i64.wrap (50 * (k : Int)) ∧ IntKind.i64.wrap (50 * (k : Int)) ≤ min (IntKind.i64.wrap ((IntKind.i64.wrap (50 * (k : Int))) + 50)) (st.length : Int) ∧ min (IntKind.i64.wrap ((IntKind.i64.wrap (50 * (k : Int))) + 50)) (st.length : Int) ≤ (st.length : Int) then some ((((st.take (min (IntKind.i64.wrap ((IntKind.i64.wrap (50 * (k : Int))) + 50)) (st.length : Int)).toNat).drop (IntKind.i64.wrap (50 * (k : Int))).toNat))) else none) else (if 0 ≤ IntKind.i64.wrap ((k : Int) - (nparts st : Int)) ∧ IntKind.i64.wrap ((k : Int) - (nparts st : Int)) < (ents.length : Int) then some (((ents.getD (IntKind.i64.wrap ((k : Int) - (nparts st : Int)) : Int).toNat []))) else none)) : Option (List Int)) = some (bodyAt st ents k) := by
        unfold bodyAt
        by_cases c : k < nparts st
        · obtain ⟨g1, g2⟩ := piece_cut hs c
          rw [if_pos (by omega), if_pos g1, g2, if_pos c]
        · rw [if_neg (by omega), if_neg c, w64 (x := (k : Int) - (nparts st : Int)) (by omega) (by omega), if_pos (by omega), show ((k : Int) - (nparts st : Int)).toNat = k - nparts st by omega]
      rw [eb]
      dsimp only [Option.bind_some]
      rw [ref_Put_run _ hbb]
      dsimp only [Option.bind_some]
      rw [w64 (x := a + (k : Int)) (by omega) (by omega), hq1]
      dsimp only [Option.bind_some]
      rw [w64n (by omega)]
    rw [hrun]
    rw [layW_cons] at hL
    by_cases c : (wr e (a + (k : Int)) (putOf ⟨gen, (k : Int), (nparts st : Int), (ents.length : Int), bodyAt st ents k⟩)).1 ≠ 0
    · rw [if_pos c] at hL ⊢
      exact .inr ⟨_, rfl, q', by rw [← hL]; exact hq2, .inr (by rw [← hL])⟩
    · rw [if_neg c] at hL ⊢
      exact .inl ⟨_, rfl, rfl, _, hq2, Ww.1, by have := Ww.2; omega, hL⟩
  · rintro ⟨x, q⟩ ⟨hx, e, Re, We, hpe, hL⟩
    dsimp only at hx Re
    subst hx
    rw [List.drop_of_length_le (by rw [secs_len]; exact Nat.le_refl _)] at hL
    refine ⟨.inl q, ?_, q, by rw [← hL]; exact Re, .inl ⟨rfl, by rw [← hL]; rfl⟩⟩
    unfold ref17_Lay_b1
    dsimp only
    rw [w64 (x := (nparts st : Int) + (ents.length : Int)) (by omega) (by omega), if_neg (by omega)]
theorem rlay_eq {n : Nat} {a lim gen : Int} (ha : -4611686018427387904 ≤ a ∧ a < 4611686018427387904) {st : List Int} {ents : List (List Int)} (hsb : Bytes st) (heb : ∀ e ∈ ents, Bytes e) {d : disk_Disk} {r : ref15_Disk} (R : Rf n d r) (W : WFd n d) (hp : d.pending.length ≤ 500000) : ∃ r', ref17_Lay_f r a lim gen st ents = some ((layV d a lim gen st ents).1, r') ∧ Rf n (layV d a lim gen st ents).2 r' := by
  unfold ref17_Lay_f layV
  by_cases c1 : gen < 1
  · rw [if_pos c1, if_pos (.inl c1)]; exact ⟨r, rfl, R⟩
  · rw [if_neg c1]
    by_cases c2 : gen > 281474976710656
    · rw [if_pos c2, if_pos (.inr (.inl c2))]; exact ⟨r, rfl, R⟩
    · rw [if_neg c2, rstate_eq]
      dsimp only [Option.bind_some]
      by_cases c3 : stOk st
      · rw [if_pos (decide_eq_true c3)]
        by_cases c4 : (ents.length : Int) > 1000
        · rw [if_pos c4, if_pos (.inr (.inr (.inr (.inl c4))))]; exact ⟨r, rfl, R⟩
        · rw [if_neg c4, rents_eq r ents (by omega)]
          by_cases c5 : ∀ e ∈ ents, enOk e
          · rw [if_pos c5]
            have c6 : ¬ (gen < 1 ∨ gen > 281474976710656 ∨ ¬ stOk st ∨ (ents.length : Int) > 1000 ∨ ¬ (∀ e ∈ ents, enOk e)) := by
              rintro (h | h | h | h | h)
              · exact c1 h
              · exact c2 h
              · exact h c3
              · exact c4 h
              · exact h c5
            rw [if_neg c6]
            dsimp only [Option.bind_some]
            rw [rparts_eq c3]
            dsimp only [Option.bind_some]
            have hP : nparts st ≤ 32 := by obtain ⟨h1, h2⟩ := c3; unfold nparts; omega
            rw [w64 (x := (nparts st : Int) + (ents.length : Int)) (by omega) (by omega)]
            by_cases c7 : (nparts st : Int) + (ents.length : Int) > lim
            · rw [if_pos c7, if_pos c7]; exact ⟨r, rfl, R⟩
            · rw [if_neg c7, if_neg c7]
              obtain ⟨q, h1, x, h2, ⟨rfl, h3⟩ | rfl⟩ := rlay_b1 (a := a) (gen := gen) (ents := ents) ha c3 hsb heb (by omega) R W hp
              · rw [h1]
                dsimp only [Option.bind_some]
                rw [h3]
                exact ⟨x, rfl, h2⟩
              · rw [h1]
                exact ⟨x, rfl, h2⟩
          · rw [if_neg c5, if_pos (.inr (.inr (.inr (.inr c5))))]; exact ⟨r, rfl, R⟩
      · rw [if_neg (by simpa using c3), if_pos (.inr (.inr (.inl c3)))]; exact ⟨r, rfl, R⟩
theorem rput_eq {n : Nat} {a lim : Int} (ha : -4611686018427387904 ≤ a ∧ a < 4611686018427387904) {g : api_Region} (hm : g.More.length ≤ 1000000) {e : List Int} (he : Bytes e) {d : disk_Disk} {r : ref15_Disk} (R : Rf n d r) (W : WFd n d) (hp : d.pending.length ≤ 1000000) : ∃ r', ref17_Put_f r a lim g e = some ((putV d a lim g e).1, r') ∧ Rf n (putV d a lim g e).2 r' := by
  unfold ref17_Put_f putV
  rw [rentry_eq]
  dsimp only [Option.bind_some]
  by_cases c0 : enOk e
  · rw [if_pos (decide_eq_true c0)]
    by_cases c1 : g.Gen < 1
    · rw [if_pos c1, if_pos (.inr (.inl c1))]; exact ⟨r, rfl, R⟩
    · rw [if_neg c1]
      by_cases c2 : g.Gen > 281474976710656
      · rw [if_pos c2, if_pos (.inr (.inr (.inl c2)))]; exact ⟨r, rfl, R⟩
      · rw [if_neg c2, rstate_eq]
        dsimp only [Option.bind_some]
        by_cases c3 : stOk g.State
        · rw [if_pos (decide_eq_true c3)]
          by_cases c4 : (g.Kept.length : Int) > 1000
          · rw [if_pos c4, if_pos (.inr (.inr (.inr (.inr c4))))]; exact ⟨r, rfl, R⟩
          · have c6 : ¬ (¬ enOk e ∨ g.Gen < 1 ∨ g.Gen > 281474976710656 ∨ ¬ stOk g.State ∨ (g.Kept.length : Int) > 1000) := by
              rintro (h | h | h | h | h)
              · exact h c0
              · exact c1 h
              · exact c2 h
              · exact h c3
              · exact c4 h
            have hP : nparts g.State ≤ 32 := by obtain ⟨h1, h2⟩ := c3; unfold nparts; omega
            rw [if_neg c4, if_neg c6, rparts_eq c3]
            dsimp only [Option.bind_some]
            rw [w64 (x := (nparts g.State : Int) + (g.Kept.length : Int)) (by omega) (by omega), w64 (x := (nparts g.State : Int) + (g.Kept.length : Int) + (g.More.length : Int)) (by omega) (by omega)]
            by_cases c7 : (nparts g.State : Int) + (g.Kept.length : Int) + (g.More.length : Int) ≥ lim
            · rw [if_pos c7, if_pos c7]; exact ⟨r, rfl, R⟩
            · rw [if_neg c7, if_neg c7, ref_Put_run _ he]
              dsimp only [Option.bind_some]
              rw [w64 (by omega) (by omega)]
              obtain ⟨r', h1, h2⟩ := rwrite_eq R W hp (a + ((nparts g.State : Int) + (g.Kept.length : Int) + (g.More.length : Int))) (b := putOf ⟨g.Gen, (nparts g.State : Int) + (g.Kept.length : Int) + (g.More.length : Int), (nparts g.State : Int), (g.Kept.length : Int), e⟩) (putOf_bytes he)
              rw [h1]
              exact ⟨r', rfl, h2⟩
        · rw [if_neg (by simpa using c3), if_pos (.inr (.inr (.inr (.inl c3))))]; exact ⟨r, rfl, R⟩
  · rw [if_neg (by simpa using c0), if_pos (.inl c0)]; exact ⟨r, rfl, R⟩
end Go.Proofs.Ytpmkpiffbdcflaa
