/- Regions, plain: the reference's Read. -/
import Derived.Test.YtpmkpiffbdcflaaRegG
import Derived.Test.YtpmkpiffbdcflaaRegD
set_option linter.unusedVariables false
set_option linter.unusedSimpArgs false
namespace Go.Proofs.Ytpmkpiffbdcflaa
open Go Go.RowKit
theorem rlike_eq {n : Nat} {d : disk_Disk} {r : ref15_Disk} (R : Rf n d r) (W : WFd n d) (hm : d.pending.length ≤ 1000000) (hn : n ≤ 4096) {a lim : Int} {h : api_Sector} (p : Nat) :
    ∃ s b, ref17_like_f r a lim (p : Int) h = some (s, b) ∧ ((b = true ∧ lk (fa (rdv d) a lim) h p = some s.Body) ∨ (b = false ∧ lk (fa (rdv d) a lim) h p = none)) := by
  unfold ref17_like_f
  rw [rsector_eq R W hm hn (by omega)]
  dsimp only [Option.bind_some]
  unfold lk fa
  cases sa (rdv d) a lim (p : Int) with
  | none => exact ⟨_, _, rfl, .inr ⟨rfl, rfl⟩⟩
  | some s =>
    rw [show opS (some s) = (s, true) from rfl]
    dsimp only
    rw [if_pos rfl]
    by_cases c1 : s.Place = (p : Int)
    · rw [if_neg (not_not_intro c1)]
      by_cases c2 : s.Gen = h.Gen
      · rw [if_neg (not_not_intro c2)]
        by_cases c3 : s.Parts = h.Parts
        · rw [if_neg (not_not_intro c3)]
          by_cases c4 : s.Kept = h.Kept
          · rw [if_neg (not_not_intro c4), if_pos ⟨c1, c2, c3, c4⟩]; exact ⟨_, _, rfl, .inl ⟨rfl, rfl⟩⟩
          · rw [if_pos c4, if_neg fun h => c4 h.2.2.2]; exact ⟨_, _, rfl, .inr ⟨rfl, rfl⟩⟩
        · rw [if_pos c3, if_neg fun h => c3 h.2.2.1]; exact ⟨_, _, rfl, .inr ⟨rfl, rfl⟩⟩
      · rw [if_pos c2, if_neg fun h => c2 h.2.1]; exact ⟨_, _, rfl, .inr ⟨rfl, rfl⟩⟩
    · rw [if_pos c1, if_neg fun h => c1 h.1]; exact ⟨_, _, rfl, .inr ⟨rfl, rfl⟩⟩
/-- The first loop. -/
theorem rread_b0 {n : Nat} {d : disk_Disk} {r : ref15_Disk} (R : Rf n d r) (W : WFd n d) (hm : d.pending.length ≤ 1000000) (hn : n ≤ 4096) {a lim : Int} {h : api_Sector} (hr : RtP h) :
    lp (ref17_Read_b0 r a lim h) (0, [], []) = some (if ((rows (fa (rdv d) a lim) h 5000 0).length : Int) < h.Parts + h.Kept ∨ ((rows (fa (rdv d) a lim) h 5000 0).take (h.Parts.toNat - 1)).any (fun b => decide (b.length < 50)) = true then .inr (RG0, false) else .inl (((rows (fa (rdv d) a lim) h 5000 0).take h.Parts.toNat).flatten, ((rows (fa (rdv d) a lim) h 5000 0).take (h.Parts + h.Kept).toNat).drop h.Parts.toNat)) := by
  obtain ⟨⟨g1, g2⟩, _, ⟨p1, p2⟩, ⟨q1, q2⟩, _⟩ := hr
  have hlen := rows_le4096 W hn a lim h
  have hat := rows_at (fa (rdv d) a lim) h 5000 0
  have hend := rows_end (fa (rdv d) a lim) h 5000 0 (by omega)
  have hb := rows_le50 W a lim h
  generalize rows (fa (rdv d) a lim) h 5000 0 = S at hlen hat hend hb ⊢
  rw [Nat.zero_add] at hend
  have hw : IntKind.i64.wrap (h.Parts + h.Kept) = h.Parts + h.Kept := w64 (by omega) (by omega)
  have key : ∃ q, lp (ref17_Read_b0 r a lim h) (0, [], []) = some q ∧ q = (if (S.length : Int) < h.Parts + h.Kept ∨ (S.take (h.Parts.toNat - 1)).any (fun b => decide (b.length < 50)) = true then .inr (RG0, false) else .inl ((S.take h.Parts.toNat).flatten, (S.take (h.Parts + h.Kept).toNat).drop h.Parts.toNat)) := by
    refine lp_run (fun k (s : Int × List Int × List (List Int)) => s = ((k : Int), ((S.take k).take h.Parts.toNat).flatten, (S.take k).drop h.Parts.toNat) ∧ k ≤ S.length ∧ ∀ j, j < k → j + 1 < h.Parts.toNat → ∀ b, S[j]? = some b → ¬ b.length < 50) _ (h.Parts + h.Kept).toNat (by omega) ⟨by simp, Nat.zero_le _, fun j hj => absurd hj (Nat.not_lt_zero j)⟩ ?_ ?_
    · rintro k s hk ⟨rfl, hkS, hfull⟩
      obtain ⟨s, b, e, hlk⟩ := rlike_eq R W hm hn (a := a) (lim := lim) (h := h) k
      rcases Nat.lt_or_ge k S.length with hlt | hge
      · have h2 := hat k hlt
        rw [Nat.zero_add, List.getElem?_eq_getElem hlt] at h2
        rcases hlk with ⟨rfl, h3⟩ | ⟨rfl, h3⟩
        rotate_left
        · rw [h2] at h3; cases h3
        have hB : s.Body = S[k] := by rw [h2] at h3; exact (Option.some.inj h3).symm
        have hbk : S[k].length ≤ 50 := hb _ (List.getElem_mem hlt)
        have hfl : ((S.take k).take h.Parts.toNat).flatten.length ≤ 50 * 4096 := by
          have h3 := flat_len ((S.take k).take h.Parts.toNat) fun b hb' => hb b (List.mem_of_mem_take (List.mem_of_mem_take hb'))
          have h4 : ((S.take k).take h.Parts.toNat).length ≤ 4096 := by simp only [List.length_take]; omega
          omega
        have hl2 : ((S.take k).drop h.Parts.toNat).length ≤ 4096 := by simp only [List.length_drop, List.length_take]; omega
        by_cases cs : ((k : Int) + 1 < h.Parts ∧ (S[k].length : Int) < 50)
        · refine .inr ⟨.inr (RG0, false), ?_, ?_⟩
          · unfold ref17_Read_b0
            dsimp only
            rw [if_pos (by rw [hw]; omega), e]
            dsimp only [Option.bind_some]
            rw [if_pos (rfl : true = true), w64 (x := (k : Int) + 1) (by omega) (by omega), if_pos cs.1, hB]
            dsimp only [Option.bind_some]
            rw [if_pos (decide_eq_true (by omega))]
          · have hany : (S.take (h.Parts.toNat - 1)).any (fun b => decide (b.length < 50)) = true := List.any_eq_true.2 ⟨S[k], List.mem_take_iff_getElem.2 ⟨k, by omega, rfl⟩, decide_eq_true (by omega)⟩
            exact (if_pos (.inr hany)).symm
        · refine .inl ⟨(((k + 1 : Nat) : Int), ((S.take (k + 1)).take h.Parts.toNat).flatten, (S.take (k + 1)).drop h.Parts.toNat), ?_, rfl, hlt, ?_⟩
          · unfold ref17_Read_b0
            dsimp only
            rw [if_pos (by rw [hw]; omega), e]
            dsimp only [Option.bind_some]
            rw [if_pos (rfl : true = true), w64 (x := (k : Int) + 1) (by omega) (by omega), hB]
            have e2 : (if (k : Int) + 1 < h.Parts then some (decide ((S[k].length : Int) ≠ 50)) else some false : Option Bool) = some false := by
              by_cases c1 : (k : Int) + 1 < h.Parts
              · rw [if_pos c1, decide_eq_false fun hh => cs ⟨c1, by omega⟩]
              · rw [if_neg c1]
            rw [e2]
            dsimp only [Option.bind_some]
            rw [if_neg (by simp)]
            obtain ⟨t1, t2, _⟩ := parts_snoc (L := S.take k) (b := S[k]) (P := h.Parts.toNat) (Q := (h.Parts + h.Kept).toNat) (k := k) (by rw [List.length_take]; omega) (by omega)
            have full : ∀ L : List (List Int), L.length ≤ (h.Parts + h.Kept).toNat → L.take (h.Parts + h.Kept).toNat = L := fun L hL => List.take_of_length_le hL
            have f1 := full (S.take k) (by rw [List.length_take]; omega)
            have f2 := full (S.take k ++ [S[k]]) (by simp only [List.length_append, List.length_take, List.length_cons, List.length_nil]; omega)
            rw [f1, f2] at t1 t2
            rw [take_snoc hlt]
            by_cases c1 : (k : Int) < h.Parts
            · obtain ⟨u1, u2, _⟩ := t1 (by omega)
              rw [u1, u2, if_pos c1, if_pos (by omega)]
              rfl
            · obtain ⟨u1, u2, _⟩ := t2 (by omega) (by omega)
              rw [u1, u2, if_neg c1, if_pos (by omega)]
              rfl
          · intro j hj hP b hbj
            rcases Nat.lt_or_ge j k with hjk | hjk
            · exact hfull j hjk hP b hbj
            · obtain rfl : j = k := by omega
              rw [List.getElem?_eq_getElem hlt] at hbj
              obtain rfl := Option.some.inj hbj
              intro hb50
              exact cs ⟨by omega, by omega⟩
      · obtain rfl : k = S.length := by omega
        rcases hlk with ⟨rfl, h3⟩ | ⟨rfl, h3⟩
        · rw [hend] at h3; cases h3
        refine .inr ⟨.inr (RG0, false), ?_, (if_pos (.inl (by omega))).symm⟩
        unfold ref17_Read_b0
        dsimp only
        rw [if_pos (by rw [hw]; omega), e]
        rfl
    · rintro s ⟨rfl, hkS, hfull⟩
      have hany : ¬ (S.take (h.Parts.toNat - 1)).any (fun b => decide (b.length < 50)) = true := by
        intro hh
        obtain ⟨b, hb1, hb2⟩ := List.any_eq_true.1 hh
        obtain ⟨j, hj, hjb⟩ := List.mem_take_iff_getElem.1 hb1
        exact hfull j (by omega) (by omega) b (by rw [List.getElem?_eq_getElem (by omega), hjb]) (of_decide_eq_true hb2)
      refine ⟨.inl ((S.take h.Parts.toNat).flatten, (S.take (h.Parts + h.Kept).toNat).drop h.Parts.toNat), ?_, (if_neg (by rintro (h1 | h1); omega; exact hany h1)).symm⟩
      unfold ref17_Read_b0
      dsimp only
      rw [if_neg (by rw [hw]; omega), List.take_take, Nat.min_eq_left (by omega)]
  obtain ⟨q, h1, rfl⟩ := key
  exact h1
end Go.Proofs.Ytpmkpiffbdcflaa
