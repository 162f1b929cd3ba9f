/- The statement RegionStale: plain Lean. -/
import Derived.Test.YtdkdaggpfgajlaaRegL
import Derived.Test.YtdkdaggpfgajlaaReads
import Derived.Test.YtdkdaggpfgajlaaGRegionStale
set_option linter.unusedVariables false
set_option linter.unusedSimpArgs false
namespace Go.Proofs.Ytdkdaggpfgajlaa
open Go Go.RowKit
/-- The elder sectors. -/
theorem stale_old {b : Int} {was : List Int} {old : List (List Int)} (hsb : Bytes was) (heb : ∀ e ∈ old, Bytes e) : ∃ d, (layV (dnew 300) 0 300 b was old).2 = d ∧ WFd 300 d ∧ d.pending.length ≤ 2000 ∧ d.fuse = -1 ∧ ∀ p s, fa (rdv d) 0 300 p = some s → s.Gen = b := by
  have W0 := WFd.new 300
  rcases layV_cases (dnew 300) 0 300 b was old with h | h | ⟨L, _⟩
  · exact ⟨dnew 300, by rw [h], W0, Nat.zero_le _, rfl, fun p s hs => by rw [fa_new] at hs; cases hs⟩
  · exact ⟨dnew 300, by rw [h], W0, Nat.zero_le _, rfl, fun p s hs => by rw [fa_new] at hs; cases hs⟩
  · have hr := L.r
    have hv := lay_view (d := dnew 300) (lim := 300) L hsb heb (by omega : 0 ≤ (0 : Int)) (m := (secs b was old).length) (Nat.le_refl _) (-1)
    have Wf := W0.fine (a := 0) L (by omega) (by omega) (secs b was old).length (f := -1) (by omega)
    rw [List.take_length] at hv Wf
    rw [secs_len] at hv
    refine ⟨_, by rw [lay_fine W0 rfl L hsb heb (by omega) (by omega)], Wf, ?_, rfl, fun p s hs => ?_⟩
    · show ((dnew 300).pending ++ wrs 0 0 (secs b was old)).length ≤ 2000
      rw [List.length_append, wrs_len, secs_len]
      show 0 + _ ≤ 2000
      omega
    · rw [hv p] at hs
      by_cases c : p < nparts was + old.length
      · rw [if_pos c] at hs
        rw [← Option.some.inj hs]; rfl
      · rw [if_neg c, fa_new] at hs; cases hs
theorem pure_RegionStale (a0 a1 : Int) (a2 a3 : List Int) (a4 : List (List Int)) (a5 : List Int) (g0 : (Lit.int .u16 a0).wf = true) (g1 : (Lit.int .u16 a1).wf = true) (g2 : a2.length ≤ maxLen ∧ ∀ y ∈ a2, 0 ≤ y ∧ y < 256) (g3 : a3.length ≤ maxLen ∧ ∀ y ∈ a3, 0 ≤ y ∧ y < 256) (g4 : a4.length ≤ maxLen ∧ ∀ y ∈ a4, y.length ≤ maxLen ∧ ∀ z ∈ y, 0 ≤ z ∧ z < 256) (g5 : a5.length ≤ maxLen ∧ ∀ y ∈ a5, 0 ≤ y ∧ y < 256) : law17_RegionStale_f a0 a1 a2 a3 a4 a5 = some true := by
  have hst : Bytes a2 := g2.2
  have hwa : Bytes a3 := g3.2
  have hol : ∀ e ∈ a4, Bytes e := fun e he => (g4.2 e he).2
  have hen : Bytes a5 := g5.2
  unfold law17_RegionStale_f
  rw [head17_eq]
  dsimp only [Option.bind_some]
  by_cases c1 : (a2.length : Int) > 3000
  · rw [if_pos c1]
  · rw [if_neg c1]
    by_cases c2 : (a3.length : Int) > 3000
    · rw [if_pos c2]
    · rw [if_neg c2]
      obtain ⟨b1, r1, h1⟩ := rows_eq a4 g4.1
      rw [r1]
      dsimp only [Option.bind_some]
      cases b1 with
      | true => rfl
      | false =>
        rw [if_neg (by simp)]
        by_cases c3 : (a5.length : Int) > 900
        · rw [if_pos c3]
        · rw [if_neg c3]
          generalize IntKind.i64.wrap (1 + IntKind.i64.wrap a0) = A
          generalize IntKind.i64.wrap (1 + IntKind.i64.wrap a1) = B
          by_cases c4 : A = B
          · rw [if_pos c4]
          · rw [if_neg c4, show disk_New_f 300 = some (some (dnew 300)) from new_eq (n := 300) (by decide)]
            dsimp only [Option.bind_some]
            obtain ⟨d, e1, W, hp, hf, hg⟩ := stale_old (b := B) hwa hol
            rw [lay_eq (by omega) hwa hol (WFd.new 300) (Nat.zero_le _)]
            dsimp only [Option.bind_some]
            rw [e1, sync_eq W (by omega)]
            dsimp only [Option.bind_some]
            have Ws := W.sy
            have hfs : (sy d).2.fuse = -1 := by
              unfold sy
              rw [if_neg (by omega)]
              show (lower d).fuse = -1
              rw [lower_fuse W, hf]; decide
            have hgs : ∀ p s, fa (rdv (sy d).2) 0 300 p = some s → s.Gen = B := by
              intro p s hs
              rw [show fa (rdv (sy d).2) 0 300 p = fa (rdv d) 0 300 p from fa_same (rdv_sy W _)] at hs
              exact hg p s hs
            have hps : (sy d).2.pending.length ≤ 2000 := Nat.le_trans Ws.2 hp
            have Ws := Ws.1
            generalize (sy d).2 = d1 at Ws hfs hgs hps ⊢
            have hnil : ∀ e ∈ ([] : List (List Int)), Bytes e := fun e he => by cases he
            rw [lay_eq (by omega) hst hnil Ws (by omega)]
            dsimp only [Option.bind_some]
            rcases layV_cases d1 0 300 A a2 [] with h | h | ⟨L, _⟩
            · rw [h]
              dsimp only
              rw [if_pos (by decide)]
            · rw [h]
              dsimp only
              rw [if_pos (by decide)]
            · have hr := L.r
              have hP := np_le L.s
              rw [lay_fine Ws hfs L hst hnil (by omega) (by omega)]
              dsimp only
              rw [if_neg (by simp)]
              have hv := lay_view (d := d1) (lim := 300) L hst hnil (by omega : 0 ≤ (0 : Int)) (m := (secs A a2 []).length) (Nat.le_refl _) (-1)
              have Wf := Ws.fine (a := 0) L (by omega) (by omega) (secs A a2 []).length (f := -1) (by omega)
              rw [List.take_length] at hv Wf
              rw [secs_len] at hv
              have RA := RgA.lay hv (fun p _ s hs => by rw [hgs p s hs]; exact fun h => c4 h.symm)
              have hpf : (⟨d1.sectors, d1.torn, d1.pending ++ wrs 0 0 (secs A a2 []), -1⟩ : disk_Disk).pending.length ≤ 4000 := by
                show (d1.pending ++ wrs 0 0 (secs A a2 [])).length ≤ 4000
                rw [List.length_append, wrs_len, secs_len]
                show _ + (nparts a2 + 0) ≤ 4000
                omega
              have hff : (⟨d1.sectors, d1.torn, d1.pending ++ wrs 0 0 (secs A a2 []), -1⟩ : disk_Disk).fuse ≠ 0 := by show (-1 : Int) ≠ 0; decide
              generalize (⟨d1.sectors, d1.torn, d1.pending ++ wrs 0 0 (secs A a2 []), -1⟩ : disk_Disk) = d2 at Wf RA hpf hff ⊢
              have hread : region_Read_f d2 0 300 = some (⟨A, a2, [], []⟩, true) := by
                rw [region_read_eq Wf (by decide) (by omega), RA.rg.read L.s (by simp; omega) L.r]
              rw [hread]
              dsimp only [Option.bind_some]
              rw [if_pos rfl, same_eq _ _ (Nat.zero_le _) (Nat.zero_le _), decide_eq_true rfl]
              dsimp only [Option.bind_some]
              rw [if_pos rfl, put_eq (by omega) (Nat.zero_le _) hen (by omega), putV_ok L]
              dsimp only [Option.bind_some]
              by_cases c5 : enOk a5
              · rw [if_neg (not_not_intro c5), if_neg (by simp; omega)]
                obtain ⟨f1, f2, _⟩ := put_fine (n := 300) (a := 0) (lim := 300) (more := []) Wf hff L c5 hen (by omega) (by omega) (by omega) (by simp; omega)
                have W2 := Wf.wr (0 + ((nparts a2 + (([] : List (List Int)).length + ([] : List (List Int)).length) : Nat) : Int)) (putOf (entAt A a2 [] [] a5))
                have h0 : (wr d2 (0 + ((nparts a2 + (([] : List (List Int)).length + ([] : List (List Int)).length) : Nat) : Int)) (putOf (entAt A a2 [] [] a5))).1 = 0 := by rw [f1]
                have R2 := RA.put f2
                rw [h0, region_read_eq (n := 300) W2.1 (by omega) (by omega), R2.rg.read L.s (by simp; omega) L.r]
                dsimp only [Option.bind_some]
                rw [if_neg (by simp), if_pos rfl, if_pos rfl, same_eq _ _ (by simp) (by simp)]
                simp
              · rw [if_pos c5]
                dsimp only
                rw [hread]
                dsimp only [Option.bind_some]
                rw [if_pos (by decide), if_pos rfl, if_pos rfl, if_pos rfl, same_eq _ _ (Nat.zero_le _) (Nat.zero_le _), decide_eq_true rfl]
                rfl
end Go.Proofs.Ytdkdaggpfgajlaa
