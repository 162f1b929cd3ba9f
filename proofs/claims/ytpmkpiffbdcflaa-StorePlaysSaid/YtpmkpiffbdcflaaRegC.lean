/- Regions, plain: Read. -/
import Derived.Test.YtpmkpiffbdcflaaRegB
set_option linter.unusedVariables false
set_option linter.unusedSimpArgs false
namespace Go.Proofs.Ytpmkpiffbdcflaa
open Go Go.RowKit
theorem lk_some {f : Nat → Option api_Sector} {h : api_Sector} {p : Nat} {b : List Int} (e : lk f h p = some b) : ∃ s, f p = some s ∧ s.Place = (p : Int) ∧ s.Gen = h.Gen ∧ s.Parts = h.Parts ∧ s.Kept = h.Kept ∧ s.Body = b := by
  unfold lk at e
  cases hf : f p with
  | none => rw [hf] at e; cases e
  | some s =>
    rw [hf] at e
    dsimp only at e
    by_cases c : s.Place = (p : Int) ∧ s.Gen = h.Gen ∧ s.Parts = h.Parts ∧ s.Kept = h.Kept
    · rw [if_pos c] at e; exact ⟨s, rfl, c.1, c.2.1, c.2.2.1, c.2.2.2, Option.some.inj e⟩
    · rw [if_neg c] at e; cases e
theorem lk_none {f : Nat → Option api_Sector} {h : api_Sector} {p : Nat} (e : lk f h p = none) : f p = none ∨ ∃ s, f p = some s ∧ ¬ (s.Place = (p : Int) ∧ s.Gen = h.Gen ∧ s.Parts = h.Parts ∧ s.Kept = h.Kept) := by
  unfold lk at e
  cases hf : f p with
  | none => exact .inl rfl
  | some s =>
    rw [hf] at e
    dsimp only at e
    by_cases c : s.Place = (p : Int) ∧ s.Gen = h.Gen ∧ s.Parts = h.Parts ∧ s.Kept = h.Kept
    · rw [if_pos c] at e; cases e
    · exact .inr ⟨s, rfl, c⟩
/-- The state of the reading loop behind so many rows. -/
def rst (h : api_Sector) (R : List (List Int)) (k : Nat) : Int × List Int × List (List Int) × List (List Int) :=
  ((k : Int), ((R.take k).take h.Parts.toNat).flatten, ((R.take k).take (h.Parts + h.Kept).toNat).drop h.Parts.toNat, (R.take k).drop (h.Parts + h.Kept).toNat)
theorem read_loop {n : Nat} {d : disk_Disk} (W : WFd n d) (hn : n ≤ 4096) {a lim : Int} (ha : a < 9223372036854775808) {h : api_Sector} (hr : RtP h) :
    lp (region_Read_b0 d a lim h.Gen h.Parts h.Kept) (0, [], [], []) = some (if ((rows (fa (rdv d) a lim) h 5000 0).length : Int) < h.Parts + h.Kept ∨ ((rows (fa (rdv d) a lim) h 5000 0).take (h.Parts.toNat - 1)).any (fun b => decide (b.length < 50)) = true then (RG0, false) else (regOf h (rows (fa (rdv d) a lim) h 5000 0), true)) := by
  obtain ⟨⟨g1, g2⟩, _, ⟨p1, p2⟩, ⟨q1, q2⟩, _⟩ := hr
  have hlen : (rows (fa (rdv d) a lim) h 5000 0).length ≤ 4096 := by
    have h1 := rows_at (fa (rdv d) a lim) h 5000 0 4096
    rcases Nat.lt_or_ge 4096 (rows (fa (rdv d) a lim) h 5000 0).length with hlt | hge
    · have h2 := h1 hlt
      rw [List.getElem?_eq_getElem hlt] at h2
      obtain ⟨s, hs, _⟩ := lk_some h2
      rw [fa_end W (.inl (by omega))] at hs
      cases hs
    · exact hge
  have hat := rows_at (fa (rdv d) a lim) h 5000 0
  have hend := rows_end (fa (rdv d) a lim) h 5000 0 (by omega)
  have hb : ∀ b ∈ rows (fa (rdv d) a lim) h 5000 0, b.length ≤ 50 := by
    intro b hb
    obtain ⟨j, hj, rfl⟩ := List.getElem_of_mem hb
    have h2 := hat j hj
    rw [List.getElem?_eq_getElem hj] at h2
    obtain ⟨s, hs, _, _, _, _, hB⟩ := lk_some h2
    rw [← hB]
    exact (sa_some (rdv_bytes d) hs).1.2.2.2.2.2
  generalize rows (fa (rdv d) a lim) h 5000 0 = R at hlen hat hend hb ⊢
  rw [Nat.zero_add] at hend
  have key : ∃ r, lp (region_Read_b0 d a lim h.Gen h.Parts h.Kept) (0, [], [], []) = some r ∧ r = (if (R.length : Int) < h.Parts + h.Kept ∨ (R.take (h.Parts.toNat - 1)).any (fun b => decide (b.length < 50)) = true then (RG0, false) else (regOf h R, true)) := by
    refine lp_run (fun k s => s = rst h R k ∧ ∀ j, j < k → j + 1 < h.Parts.toNat → ∀ b, R[j]? = some b → ¬ b.length < 50) _ R.length (by omega) ⟨by simp [rst], fun j hj => absurd hj (Nat.not_lt_zero j)⟩ ?_ ?_
    · rintro k s hk ⟨rfl, hfull⟩
      have h2 := hat k hk
      rw [Nat.zero_add, List.getElem?_eq_getElem hk] at h2
      obtain ⟨s, hs, s1, s2, s3, s4, s5⟩ := lk_some h2
      have e := at_eq W hn (a := a) (lim := lim) (p := (k : Int)) ha (by omega)
      rw [show sa (rdv d) a lim (k : Int) = some s from hs] at e
      rw [show tup (some s) = (s.Gen, s.Place, s.Parts, s.Kept, s.Body, true) from rfl] at e
      have hfl : ((R.take k).take h.Parts.toNat).flatten.length ≤ 50 * 4096 := by
        have h3 := flat_len ((R.take k).take h.Parts.toNat) fun b hb' => hb b (List.mem_of_mem_take (List.mem_of_mem_take hb'))
        have h4 : ((R.take k).take h.Parts.toNat).length ≤ 4096 := by simp only [List.length_take]; omega
        omega
      have hbk : R[k].length ≤ 50 := hb _ (List.getElem_mem hk)
      have hw : IntKind.i64.wrap (h.Parts + h.Kept) = h.Parts + h.Kept := w64 (by omega) (by omega)
      by_cases cs : ((k : Int) + 1 < h.Parts ∧ (R[k].length : Int) < 50)
      · refine .inr ⟨(RG0, false), ?_, ?_⟩
        · unfold region_Read_b0 rst
          dsimp only
          refine Option.bind_eq_some_iff.2 ⟨_, e, ?_⟩
          dsimp only
          rw [if_pos (rfl : true = true), if_neg (not_not_intro s1), if_neg (not_not_intro s2), if_neg (not_not_intro s3), if_neg (not_not_intro s4), w64 (x := (k : Int) + 1) (by omega) (by omega), s3, if_pos cs.1, s5]
          dsimp only [Option.bind_some]
          rw [if_pos (decide_eq_true cs.2)]
        · have hany : (R.take (h.Parts.toNat - 1)).any (fun b => decide (b.length < 50)) = true := List.any_eq_true.2 ⟨R[k], List.mem_take_iff_getElem.2 ⟨k, by omega, rfl⟩, decide_eq_true (by omega)⟩
          exact (if_pos (.inr hany)).symm
      · refine .inl ⟨rst h R (k + 1), ?_, rfl, ?_⟩
        · unfold region_Read_b0 rst
          dsimp only
          refine Option.bind_eq_some_iff.2 ⟨_, e, ?_⟩
          dsimp only
          rw [if_pos (rfl : true = true), if_neg (not_not_intro s1), if_neg (not_not_intro s2), if_neg (not_not_intro s3), if_neg (not_not_intro s4), w64 (x := (k : Int) + 1) (by omega) (by omega), s3, s5, hw]
          have e2 : (if (k : Int) + 1 < h.Parts then some (decide ((R[k].length : Int) < 50)) else some false : Option Bool) = some false := by
            by_cases c1 : (k : Int) + 1 < h.Parts
            · rw [if_pos c1, decide_eq_false fun h => cs ⟨c1, h⟩]
            · rw [if_neg c1]
          rw [e2]
          dsimp only [Option.bind_some]
          rw [if_neg (by simp)]
          obtain ⟨t1, t2, t3⟩ := parts_snoc (L := R.take k) (b := R[k]) (P := h.Parts.toNat) (Q := (h.Parts + h.Kept).toNat) (k := k) (by rw [List.length_take]; omega) (by omega)
          have hl2 : (((R.take k).take (h.Parts + h.Kept).toNat).drop h.Parts.toNat).length ≤ 4096 := by simp only [List.length_drop, List.length_take]; omega
          have hl3 : ((R.take k).drop (h.Parts + h.Kept).toNat).length ≤ 4096 := by simp only [List.length_drop, List.length_take]; omega
          rw [take_snoc hk]
          by_cases c1 : (k : Int) + 1 ≤ h.Parts
          · obtain ⟨u1, u2, u3⟩ := t1 (by omega)
            rw [u1, u2, u3, if_pos c1, if_pos (by omega)]
            rfl
          · rw [if_neg c1]
            by_cases c2 : (k : Int) + 1 ≤ h.Parts + h.Kept
            · obtain ⟨u1, u2, u3⟩ := t2 (by omega) (by omega)
              rw [u1, u2, u3, if_pos c2, if_pos (by omega)]
              rfl
            · obtain ⟨u1, u2, u3⟩ := t3 (by omega)
              rw [u1, u2, u3, if_neg c2, if_pos (by omega)]
              rfl
        · intro j hj hP b hbj
          rcases Nat.lt_or_ge j k with hjk | hjk
          · exact hfull j hjk hP b hbj
          · obtain rfl : j = k := by omega
            rw [List.getElem?_eq_getElem hk] at hbj
            obtain rfl := Option.some.inj hbj
            intro hb50
            exact cs ⟨by omega, by omega⟩
    · rintro s ⟨rfl, hfull⟩
      have hany : ¬ (R.take (h.Parts.toNat - 1)).any (fun b => decide (b.length < 50)) = true := by
        intro hh
        obtain ⟨b, hb1, hb2⟩ := List.any_eq_true.1 hh
        obtain ⟨j, hj, hjb⟩ := List.mem_take_iff_getElem.1 hb1
        exact hfull j (by omega) (by omega) b (by rw [List.getElem?_eq_getElem (by omega), hjb]) (of_decide_eq_true hb2)
      have e := at_eq W hn (a := a) (lim := lim) (p := (R.length : Int)) ha (by omega)
      have hw : IntKind.i64.wrap (h.Parts + h.Kept) = h.Parts + h.Kept := w64 (by omega) (by omega)
      have fin : (if (R.length : Int) < IntKind.i64.wrap (h.Parts + h.Kept) then some (Sum.inr (RG0, false)) else some (Sum.inr ((⟨h.Gen, ((R.take R.length).take h.Parts.toNat).flatten, ((R.take R.length).take (h.Parts + h.Kept).toNat).drop h.Parts.toNat, (R.take R.length).drop (h.Parts + h.Kept).toNat⟩ : api_Region), true)) : Option ((Int × List Int × List (List Int) × List (List Int)) ⊕ (api_Region × Bool))) = some (Sum.inr (if (R.length : Int) < h.Parts + h.Kept ∨ (R.take (h.Parts.toNat - 1)).any (fun b => decide (b.length < 50)) = true then (RG0, false) else (regOf h R, true))) := by
        rw [hw, List.take_length]
        by_cases c : (R.length : Int) < h.Parts + h.Kept
        · rw [if_pos c, if_pos (.inl c)]
        · rw [if_neg c, if_neg (by rintro (h1 | h1); exact c h1; exact hany h1)]; rfl
      refine ⟨_, ?_, rfl⟩
      refine Eq.trans ?_ fin
      unfold region_Read_b0 rst
      dsimp only
      rcases lk_none hend with hf | ⟨s, hf, hne⟩
      · rw [show sa (rdv d) a lim (R.length : Int) = none from hf] at e
        rw [show tup none = (0, 0, 0, 0, [], false) from rfl] at e
        refine (congrArg (fun z => Option.bind z _) e).trans ?_
        rfl
      · rw [show sa (rdv d) a lim (R.length : Int) = some s from hf] at e
        rw [show tup (some s) = (s.Gen, s.Place, s.Parts, s.Kept, s.Body, true) from rfl] at e
        refine (congrArg (fun z => Option.bind z _) e).trans ?_
        dsimp only [Option.bind_some]
        rw [if_pos rfl]
        by_cases d1 : s.Place = (R.length : Int)
        · rw [if_neg (not_not_intro d1)]
          by_cases d2 : s.Gen = h.Gen
          · rw [if_neg (not_not_intro d2)]
            by_cases d3 : s.Parts = h.Parts
            · rw [if_neg (not_not_intro d3), if_pos (fun d4 => hne ⟨d1, d2, d3, d4⟩)]
            · rw [if_pos d3]
          · rw [if_pos d2]
        · rw [if_pos d1]
  obtain ⟨r, h1, rfl⟩ := key
  exact h1
theorem region_read_eq {n : Nat} {d : disk_Disk} (W : WFd n d) (hn : n ≤ 4096) {a lim : Int} (ha : a < 9223372036854775808) : region_Read_f d a lim = some (rdR (fa (rdv d) a lim) lim) := by
  unfold region_Read_f rdR
  have e := at_eq W hn (a := a) (lim := lim) (p := 0) ha (by omega)
  cases hs : sa (rdv d) a lim 0 with
  | none =>
    rw [hs] at e
    rw [show tup none = (0, 0, 0, 0, [], false) from rfl] at e
    rw [show fa (rdv d) a lim 0 = none from hs]
    exact Option.bind_eq_some_iff.2 ⟨_, e, rfl⟩
  | some h =>
    have hr := (sa_some (rdv_bytes d) hs).1
    rw [hs] at e
    rw [show tup (some h) = (h.Gen, h.Place, h.Parts, h.Kept, h.Body, true) from rfl] at e
    rw [show fa (rdv d) a lim 0 = some h from hs]
    refine Option.bind_eq_some_iff.2 ⟨_, e, ?_⟩
    dsimp only
    rw [if_pos (rfl : true = true), w64 (x := h.Parts + h.Kept) (by have := hr.2.2.1; have := hr.2.2.2.1; omega) (by have := hr.2.2.1; have := hr.2.2.2.1; omega)]
    by_cases c : h.Parts + h.Kept > lim
    · rw [if_pos c, if_pos c]
    · rw [if_neg c, if_neg c, read_loop W hn ha hr]; rfl
theorem rows_le4096 {n : Nat} {d : disk_Disk} (W : WFd n d) (hn : n ≤ 4096) (a lim : Int) (h : api_Sector) : (rows (fa (rdv d) a lim) h 5000 0).length ≤ 4096 := by
  have h1 := rows_at (fa (rdv d) a lim) h 5000 0 4096
  rcases Nat.lt_or_ge 4096 (rows (fa (rdv d) a lim) h 5000 0).length with hlt | hge
  · have h2 := h1 hlt
    rw [List.getElem?_eq_getElem hlt] at h2
    obtain ⟨s, hs, _⟩ := lk_some h2
    rw [fa_end W (.inl (by omega))] at hs
    cases hs
  · exact hge
theorem rows_le50 {n : Nat} {d : disk_Disk} (W : WFd n d) (a lim : Int) (h : api_Sector) : ∀ b ∈ rows (fa (rdv d) a lim) h 5000 0, b.length ≤ 50 := by
  intro b hb
  obtain ⟨j, hj, rfl⟩ := List.getElem_of_mem hb
  have h2 := rows_at (fa (rdv d) a lim) h 5000 0 j hj
  rw [List.getElem?_eq_getElem hj] at h2
  obtain ⟨s, hs, _, _, _, _, hB⟩ := lk_some h2
  rw [← hB]
  exact (sa_some (rdv_bytes d) hs).1.2.2.2.2.2
end Go.Proofs.Ytpmkpiffbdcflaa
