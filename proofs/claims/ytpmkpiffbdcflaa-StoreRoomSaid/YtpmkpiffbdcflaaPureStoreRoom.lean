/- The statement StoreRoom: plain Lean. -/
import Derived.Test.YtpmkpiffbdcflaaStoF
import Derived.Test.YtpmkpiffbdcflaaGStoreRoom
set_option linter.unusedVariables false
set_option linter.unusedSimpArgs false
namespace Go.Proofs.Ytpmkpiffbdcflaa
open Go Go.RowKit
theorem bytes_one {x : Int} (h : 0 ≤ x ∧ x < 256) : Bytes [x] := fun y hy => by rw [List.mem_singleton.1 hy]; exact h
theorem no_ents : ∀ e ∈ ([] : List (List Int)), Bytes e := fun e he => by cases he
theorem pure_StoreRoom (a0 : Int) (a1 : List Int) (a2 : Int) (g0 : 0 ≤ a0 ∧ a0 < 256) (g1 : a1.length ≤ maxLen ∧ ∀ y ∈ a1, 0 ≤ y ∧ y < 256) (g2 : 0 ≤ a2 ∧ a2 < 256) : law18_StoreRoom_f a0 a1 a2 = some true := by
  have hsb : Bytes a1 := g1.2
  have t0 := Int.emod_nonneg a0 (b := 40) (by omega)
  have t1 := Int.emod_lt_of_pos a0 (b := 40) (by omega)
  obtain ⟨N, hN⟩ : ∃ N : Nat, a0.tmod 40 + 1 = (N : Int) ∧ 1 ≤ N ∧ N ≤ 40 := by
    rw [Int.tmod_eq_emod_of_nonneg g0.1]
    exact ⟨(a0 % 40 + 1).toNat, by omega, by omega, by omega⟩
  obtain ⟨M, hM⟩ : ∃ M : Nat, IntKind.i64.wrap (a2.tmod 60) = (M : Int) ∧ M ≤ 60 := by
    have t2 := Int.emod_nonneg a2 (b := 60) (by omega)
    have t3 := Int.emod_lt_of_pos a2 (b := 60) (by omega)
    rw [Int.tmod_eq_emod_of_nonneg g2.1, w64 (by omega) (by omega)]
    exact ⟨(a2 % 60).toNat, by omega, by omega⟩
  have ew : IntKind.i64.wrap ((IntKind.i64.wrap (a0.tmod 40)) + 1) = (N : Int) := by
    rw [w64 (x := a0.tmod 40) (by omega) (by omega), hN.1, w64 (by omega) (by omega)]
  have hn4 : 2 * N ≤ 4096 := by omega
  have hh : hf (2 * N) = (N : Int) := by unfold hf; omega
  unfold law18_StoreRoom_f
  rw [head18_eq]
  dsimp only [Option.bind_some]
  rw [ew, show IntKind.i64.wrap (2 * (N : Int)) = ((2 * N : Nat) : Int) by rw [w64 (by omega) (by omega)]; omega, new_eq hn4]
  dsimp only [Option.bind_some]
  by_cases c1 : (a1.length : Int) < 1
  · rw [if_pos c1]
  · rw [if_neg c1]
    by_cases c2 : (a1.length : Int) > 1600
    · rw [if_pos c2]
    · have hst : stOk a1 := ⟨by omega, by omega⟩
      have hmay : mayOk a1 [] := ⟨hst, Nat.zero_le _, fun e he => (by cases he)⟩
      have hP := np_le hst
      have ep : IntKind.i64.wrap ((IntKind.i64.wrap ((a1.length : Int) + 49)).tdiv 50) = (nparts a1 : Int) := by
        unfold nparts
        rw [w64 (x := (a1.length : Int) + 49) (by omega) (by omega), Int.tdiv_eq_ediv_of_nonneg (by omega), w64 (by omega) (by omega)]
        omega
      obtain ⟨e0, I0⟩ := inv_new (2 * N) [] []
      rw [if_neg c2, open_eq (WFd.new (2 * N)) hn4, e0]
      dsimp only [Option.bind_some]
      rw [begin_eq (WFd.new (2 * N)) hn4 (Nat.zero_le _) _ hsb no_ents, ep]
      dsimp only [Option.bind_some]
      have G0 := GB.new (2 * N)
      have hg0 := G0.grt (by omega) (2 * N)
      have hbc := beg_code hn4 (WFd.new (2 * N)) rfl (s := ⟨RG0, false, 0, false, false⟩) rfl hsb no_ents hmay (by omega)
      rw [hh] at hbc
      have el : ((([] : List (List Int)).length : Nat) : Int) = 0 := rfl
      by_cases c3 : (nparts a1 : Int) ≤ (N : Int)
      · rw [if_pos (by rw [el]; omega)] at hbc
        rw [hbc, if_neg (by simp [c3]), if_neg (by simp)]
        dsimp only [Option.bind_some]
        rw [if_neg (by simp), if_neg (by simp)]
        have hbf := beg_fuse (WFd.new (2 * N)) rfl ⟨RG0, false, 0, false, false⟩ a1 []
        have GB1 := beg_GB (WFd.new (2 * N)) (G0.more (show (0 : Int) ≤ 1 by omega)) (by omega) ⟨RG0, false, 0, false, false⟩ hsb no_ents
        rcases beg_step hn4 I0 rfl hsb no_ents with e | ⟨c, d', e, hc, _⟩ | ⟨g, d', e, hg, I⟩
        · rw [e] at hbc; cases hbc
        · rw [e] at hbc
          dsimp only at hbc
          omega
        · rw [e] at hbf GB1 ⊢
          dsimp only at hbf GB1 ⊢
          have hgg : g ≤ 1 := by
            have e2 : (begV (2 * N) ⟨RG0, false, 0, false, false⟩ a1 [] (dnew (2 * N))).2.1.now.Gen = g := by rw [e]
            have hle := I.gen_le hn4 rfl rfl
            have := GB1.grt (by omega) (2 * N)
            dsimp only at hle
            omega
          have key : ∃ r, lp (law18_StoreRoom_b0 a0 a1 a2) (0, ⟨⟨g, a1, [], []⟩, true, othr (2 * N) ⟨RG0, false, 0, false, false⟩, true, false⟩, d') = some r ∧ ∃ s d, r = .inl (s, d) ∧ s.broken = false ∧ (∃ m, Inv (2 * N) s d [] m [] a1 []) ∧ d.fuse = -1 ∧ GB 1 d := by
            refine lp_all (fun k (t : Int × store_Store × disk_Disk) => t.1 = (k : Int) ∧ t.2.1.broken = false ∧ t.2.1.begun = true ∧ t.2.1.now.Gen ≤ 1 ∧ t.2.1.now.State = a1 ∧ t.2.1.now.Kept = [] ∧ t.2.2.fuse = -1 ∧ GB 1 t.2.2 ∧ ∃ m, Inv (2 * N) t.2.1 t.2.2 [] m [] a1 [] ∧ m.length = min k (N - nparts a1)) _ M (by omega) ⟨rfl, rfl, rfl, hgg, rfl, rfl, hbf, GB1, [], I, by simp⟩ ?_ ?_
            · rintro k ⟨i, s, d⟩ hk ⟨hi, hb, hbg, hge, hs, hkp, hfu, hG, m, J, hml⟩
              dsimp only at hi hb hbg hge hs hkp hfu hG J
              subst hi
              have hpl : pl s [] = nparts a1 := by unfold pl; rw [hs, hkp]; simp
              have hp := J.pend hn4
              have ea := append_eq J.w hn4 (by omega) J.g (J.from_le hn4) (bytes_one (x := 1) (by omega))
              unfold law18_StoreRoom_b0
              dsimp only
              rw [hM.1, if_pos (by omega), ea, ep, ew, w64 (x := (nparts a1 : Int) + (k : Int)) (by omega) (by omega), w64n (by omega)]
              dsimp only [Option.bind_some]
              rcases app_step hn4 J (bytes_one (x := 1) (by omega)) with ⟨c, e1, hc, _, hfull⟩ | ⟨d', e1, _, _, hfu', J'⟩
              · obtain ⟨rfl, hle⟩ := hfull (by rw [hfu]; decide) (show enOk [1] by decide) hb hbg
                rw [hpl, hh] at hle
                rw [e1]
                dsimp only
                rw [if_neg (by simp; omega), if_pos (by decide)]
                dsimp only [Option.bind_some]
                rw [if_neg (by simp)]
                exact ⟨_, rfl, rfl, hb, hbg, hge, hs, hkp, hfu, hG, m, J, by omega⟩
              · rw [e1]
                dsimp only
                have hroom : pl s [] + (m.length + 1) ≤ N := by
                  rcases J'.cur (by
                    cases h : s.has_ with
                    | true => exact h
                    | false => have := (J.no h).1; rw [hbg] at this; cases this) with ⟨_, _, _, _, hfit⟩ | ⟨h, _⟩
                  · rw [List.length_append, List.length_singleton, hh] at hfit
                    have : pl (addM s [1]) [] = pl s [] := rfl
                    omega
                  · rw [show (addM s [1]).begun = s.begun from rfl, hbg] at h; cases h
                rw [hpl] at hroom
                rw [if_neg (by simp; omega), if_neg (by simp)]
                dsimp only [Option.bind_some]
                rw [if_neg (by simp)]
                have hGB : GB 1 d' := by
                  have hst2 : appV (2 * N) s [1] d = (0, addM s [1], d') := e1
                  have hd : (putV d s.from_ (hf (2 * N)) s.now [1]).2 = d' := by
                    unfold appV at hst2
                    rw [if_neg (by rw [hb, hbg]; simp)] at hst2
                    split at hst2
                    · exact (Prod.mk.inj (Prod.mk.inj hst2).2).2
                    · rename_i h; exact absurd (Prod.mk.inj hst2).1 h
                  rw [← hd]
                  unfold putV
                  split
                  · exact hG
                  · split
                    · exact hG
                    · exact hG.wr J.w _ hge (bytes_one (x := 1) (by omega))
                exact ⟨_, rfl, rfl, hb, hbg, hge, hs, hkp, by rw [hfu', low_fuse J.w hfu], hGB, m ++ [[1]], J', by rw [List.length_append, List.length_singleton]; omega⟩
            · rintro ⟨i, s, d⟩ ⟨hi, hb, hbg, hge, hs, hkp, hfu, hG, m, J, hml⟩
              dsimp only at hi hb hbg hge hs hkp hfu hG J
              subst hi
              exact ⟨.inl (s, d), by unfold law18_StoreRoom_b0; dsimp only; rw [hM.1, if_neg (by omega)], s, d, rfl, hb, ⟨m, J⟩, hfu, hG⟩
          obtain ⟨r, h5, s, d, rfl, hb, ⟨m, J⟩, hfu, hG⟩ := key
          rw [h5]
          dsimp only [Option.bind_some]
          have hp := J.pend hn4
          rw [if_pos rfl, begin_eq J.w hn4 (by omega) _ (bytes_one (x := 2) (by omega)) no_ents]
          dsimp only [Option.bind_some]
          have hg2 := hG.grt (by omega) (2 * N)
          rw [beg_code hn4 J.w hfu hb (bytes_one (x := 2) (by omega)) no_ents ⟨by decide, Nat.zero_le _, fun e he => (by cases he)⟩ (by omega), hh, if_pos (by
            rw [show nparts [2] = 1 from rfl]
            simp only [List.length_nil]
            omega)]
          rfl
      · rw [if_neg (by rw [el]; omega)] at hbc
        rw [hbc, if_neg (by simp [c3]), if_pos (by decide)]
        dsimp only [Option.bind_some]
        rw [if_neg (by simp), if_pos (by decide)]
end Go.Proofs.Ytpmkpiffbdcflaa
