/- Regions, plain: the reference's Read, whole. -/
import Derived.Test.YtpmkpiffbdcflaaRegH
set_option linter.unusedVariables false
set_option linter.unusedSimpArgs false
namespace Go.Proofs.Ytpmkpiffbdcflaa
open Go Go.RowKit
theorem rread_b1 {n : Nat} {d : disk_Disk} {r : ref15_Disk} (R : Rf n d r) (W : WFd n d) (hm : d.pending.length ≤ 1000000) (hn : n ≤ 4096) {a lim : Int} {h : api_Sector} (x : List Int) (y : List (List Int)) (M : Nat) (hM : M ≤ (rows (fa (rdv d) a lim) h 5000 0).length) :
    ∃ q, lp (ref17_Read_b1 r a lim h x y) ((M : Int), []) = some q ∧ (q = .inl ((rows (fa (rdv d) a lim) h 5000 0).drop M) ∨ q = .inr (⟨h.Gen, x, y, (rows (fa (rdv d) a lim) h 5000 0).drop M⟩, true)) := by
  have hlen := rows_le4096 W hn a lim h
  have hat := rows_at (fa (rdv d) a lim) h 5000 0
  have hend := rows_end (fa (rdv d) a lim) h 5000 0 (by omega)
  generalize rows (fa (rdv d) a lim) h 5000 0 = S at hlen hat hend hM ⊢
  rw [Nat.zero_add] at hend
  have hlim : ∀ k, k < S.length → (k : Int) < lim := by
    intro k hk
    have h2 := hat k hk
    rw [Nat.zero_add, List.getElem?_eq_getElem hk] at h2
    obtain ⟨s, hs, _⟩ := lk_some h2
    rcases Int.lt_or_le (k : Int) lim with hh | hh
    · exact hh
    · rw [fa_end W (.inr hh)] at hs; cases hs
  refine lp_run (fun i (s : Int × List (List Int)) => s = (((M + i : Nat) : Int), (S.take (M + i)).drop M)) _ (S.length - M) (by omega) (by simp) ?_ ?_
  · rintro i s hi rfl
    have hk : M + i < S.length := by omega
    have h2 := hat (M + i) hk
    rw [Nat.zero_add, List.getElem?_eq_getElem hk] at h2
    obtain ⟨s, b, e, hlk⟩ := rlike_eq R W hm hn (a := a) (lim := lim) (h := h) (M + i)
    rcases hlk with ⟨rfl, h3⟩ | ⟨rfl, h3⟩
    · have hB : s.Body = S[M + i] := by rw [h2] at h3; exact (Option.some.inj h3).symm
      refine .inl ⟨(((M + (i + 1) : Nat) : Int), (S.take (M + (i + 1))).drop M), ?_, rfl⟩
      unfold ref17_Read_b1
      dsimp only
      rw [if_pos (hlim _ hk), e]
      dsimp only [Option.bind_some]
      rw [if_pos (rfl : true = true), if_pos (by simp only [List.length_drop, List.length_take]; omega), hB, w64n (by omega), ← Nat.add_assoc, take_snoc hk, List.drop_append_of_le_length (by rw [List.length_take]; omega)]
    · rw [h2] at h3; cases h3
  · rintro s rfl
    rw [show M + (S.length - M) = S.length by omega, List.take_length]
    by_cases c : (S.length : Int) < lim
    · obtain ⟨s, b, e, hlk⟩ := rlike_eq R W hm hn (a := a) (lim := lim) (h := h) S.length
      rcases hlk with ⟨rfl, h3⟩ | ⟨rfl, h3⟩
      · rw [hend] at h3; cases h3
      · refine ⟨.inr (⟨h.Gen, x, y, S.drop M⟩, true), ?_, .inr rfl⟩
        unfold ref17_Read_b1
        dsimp only
        rw [if_pos c, e]
        rfl
    · refine ⟨.inl (S.drop M), ?_, .inl rfl⟩
      unfold ref17_Read_b1
      dsimp only
      rw [if_neg c]
theorem rread17_eq {n : Nat} {d : disk_Disk} {r : ref15_Disk} (R : Rf n d r) (W : WFd n d) (hm : d.pending.length ≤ 1000000) (hn : n ≤ 4096) {a lim : Int} : ref17_Read_f r a lim = some (rdR (fa (rdv d) a lim) lim) := by
  unfold ref17_Read_f rdR
  rw [rsector_eq R W hm hn (by omega)]
  dsimp only [Option.bind_some]
  cases hs : sa (rdv d) a lim 0 with
  | none =>
    rw [show fa (rdv d) a lim 0 = none from hs]
    rfl
  | some h =>
    have hf : fa (rdv d) a lim 0 = some h := hs
    rw [hf]
    have hr := (sa_some (rdv_bytes d) hs).1
    rw [show opS (some h) = (h, true) from rfl]
    dsimp only
    rw [if_pos (rfl : true = true)]
    have hw : IntKind.i64.wrap (h.Parts + h.Kept) = h.Parts + h.Kept := w64 (by have := hr.2.2.1; have := hr.2.2.2.1; omega) (by have := hr.2.2.1; have := hr.2.2.2.1; omega)
    rw [hw]
    by_cases c0 : h.Place = 0
    · rw [if_neg (not_not_intro c0)]
      by_cases c : h.Parts + h.Kept > lim
      · rw [if_pos c, if_pos c]
      · rw [if_neg c, if_neg c, rread_b0 R W hm hn hr]
        dsimp only [Option.bind_some]
        by_cases c2 : ((rows (fa (rdv d) a lim) h 5000 0).length : Int) < h.Parts + h.Kept ∨ ((rows (fa (rdv d) a lim) h 5000 0).take (h.Parts.toNat - 1)).any (fun b => decide (b.length < 50)) = true
        · rw [if_pos c2, if_pos c2]
        · rw [if_neg c2, if_neg c2]
          have hM : (h.Parts + h.Kept).toNat ≤ (rows (fa (rdv d) a lim) h 5000 0).length := by
            have := fun hh => c2 (Or.inl hh)
            omega
          obtain ⟨q, h1, h2⟩ := rread_b1 R W hm hn (a := a) (lim := lim) (h := h) ((rows (fa (rdv d) a lim) h 5000 0).take h.Parts.toNat).flatten (((rows (fa (rdv d) a lim) h 5000 0).take (h.Parts + h.Kept).toNat).drop h.Parts.toNat) (h.Parts + h.Kept).toNat hM
          rw [Int.toNat_of_nonneg (by have := hr.2.2.1; have := hr.2.2.2.1; omega)] at h1
          dsimp only
          rw [h1]
          rcases h2 with rfl | rfl
          · rfl
          · rfl
    · rw [if_pos c0]
      have hl : lk (fa (rdv d) a lim) h 0 = none := by
        unfold lk
        rw [hf]
        dsimp only
        rw [if_neg fun hh => c0 (by simpa using hh.1)]
      have hR : rows (fa (rdv d) a lim) h 5000 0 = [] := by
        rw [show (5000 : Nat) = 4999 + 1 from rfl]
        unfold rows
        rw [hl]
      rw [hR]
      by_cases c : h.Parts + h.Kept > lim
      · rw [if_pos c]
      · rw [if_neg c, if_pos (.inl (by have := hr.2.2.1; have := hr.2.2.2.1; simp only [List.length_nil]; omega))]
end Go.Proofs.Ytpmkpiffbdcflaa
