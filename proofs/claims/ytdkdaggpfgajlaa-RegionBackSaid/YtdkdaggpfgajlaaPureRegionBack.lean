/- The statement RegionBack: plain Lean. -/
import Derived.Test.YtdkdaggpfgajlaaRegL
import Derived.Test.YtdkdaggpfgajlaaReads
import Derived.Test.YtdkdaggpfgajlaaGRegionBack
set_option linter.unusedVariables false
set_option linter.unusedSimpArgs false
namespace Go.Proofs.Ytdkdaggpfgajlaa
open Go Go.RowKit
/-- What stands behind each round. -/
structure Bk (a0 a1 : Int) (a2 : List Int) (a3 : List (List Int)) (M : List (List Int)) (d : disk_Disk) : Prop where
  w : WFd 300 d
  f : d.fuse = -1
  r : RgA (fa (rdv d) a0 (300 - a0)) a1 a2 a3 M
  g : ∀ p s, fa (rdv d) a0 (300 - a0) p = some s → s.Gen = a1
  l : ((nparts a2 + (a3.length + M.length) : Nat) : Int) ≤ 300 - a0
theorem Bk.read {a0 a1 : Int} {a2 : List Int} {a3 M : List (List Int)} {d : disk_Disk} (B : Bk a0 a1 a2 a3 M d) (L : LayOk a1 a2 a3 (300 - a0)) (h0 : 0 ≤ a0 ∧ a0 < 256) : region_Read_f d a0 (300 - a0) = some (⟨a1, a2, a3, M⟩, true) := by
  have hl := B.l
  rw [region_read_eq B.w (by decide) (by omega), B.r.rg.read L.s (by rw [List.length_append]; omega) L.r]
theorem Bk.same {a0 a1 : Int} {a2 : List Int} {a3 M : List (List Int)} {d : disk_Disk} (B : Bk a0 a1 a2 a3 M d) (h0 : 0 ≤ a0 ∧ a0 < 256) : ref17_Same_f ⟨a1, a2, a3, M⟩ ⟨a1, a2, a3, M⟩ = some true := by
  have hl := B.l
  rw [same_eq _ _ (by dsimp only; omega) (by dsimp only; omega), decide_eq_true rfl]
theorem pure_RegionBack (a0 a1 : Int) (a2 : List Int) (a3 a4 : List (List Int)) (g0 : 0 ≤ a0 ∧ a0 < 256) (g1 : (Lit.int .i64 a1).wf = true) (g2 : a2.length ≤ maxLen ∧ ∀ y ∈ a2, 0 ≤ y ∧ y < 256) (g3 : a3.length ≤ maxLen ∧ ∀ y ∈ a3, y.length ≤ maxLen ∧ ∀ z ∈ y, 0 ≤ z ∧ z < 256) (g4 : a4.length ≤ maxLen ∧ ∀ y ∈ a4, y.length ≤ maxLen ∧ ∀ z ∈ y, 0 ≤ z ∧ z < 256) : law17_RegionBack_f a0 a1 a2 a3 a4 = some true := by
  have e0 : IntKind.i64.wrap a0 = a0 := w64 (by omega) (by omega)
  have e1 : IntKind.i64.wrap (300 - a0) = 300 - a0 := w64 (by omega) (by omega)
  have hsb : Bytes a2 := g2.2
  have heb : ∀ e ∈ a3, Bytes e := fun e he => (g3.2 e he).2
  unfold law17_RegionBack_f
  rw [head17_eq]
  dsimp only [Option.bind_some]
  by_cases c2 : (a2.length : Int) > 3000
  · rw [if_pos c2]
  · rw [if_neg c2]
    obtain ⟨b1, r1, h1⟩ := rows_eq a3 g3.1
    rw [r1]
    dsimp only [Option.bind_some]
    cases b1 with
    | true => rfl
    | false =>
      rw [if_neg (by simp)]
      obtain ⟨b2, r2, h2⟩ := rows_eq a4 g4.1
      rw [r2]
      dsimp only [Option.bind_some]
      cases b2 with
      | true => rfl
      | false =>
        rw [if_neg (by simp), show disk_New_f 300 = some (some (dnew 300)) from new_eq (n := 300) (by decide)]
        dsimp only [Option.bind_some]
        have h4 := (h2 rfl).1
        have W0 := WFd.new 300
        rw [e0, e1, lay_eq (by omega) hsb heb W0 (Nat.zero_le _)]
        dsimp only [Option.bind_some]
        rcases layV_cases (dnew 300) a0 (300 - a0) a1 a2 a3 with h | h | ⟨L, _⟩
        · rw [h]
          dsimp only
          rw [if_pos (by decide), region_read_eq (WFd.new 300) (by decide) (by omega), rdR_new]
          dsimp only [Option.bind_some]
          rw [if_pos rfl, if_neg (by simp), same_eq _ _ (Nat.zero_le _) (Nat.zero_le _), decide_eq_true rfl]
          rfl
        · rw [h]
          dsimp only
          rw [if_pos (by decide), region_read_eq (WFd.new 300) (by decide) (by omega), rdR_new]
          dsimp only [Option.bind_some]
          rw [if_pos rfl, if_neg (by simp), same_eq _ _ (Nat.zero_le _) (Nat.zero_le _), decide_eq_true rfl]
          rfl
        · have hp0 := np_le L.s
          have hr0 := L.r
          rw [lay_fine W0 rfl L hsb heb (by omega) (by omega)]
          dsimp only
          rw [if_neg (by simp)]
          have B0 : Bk a0 a1 a2 a3 [] ⟨(dnew 300).sectors, (dnew 300).torn, (dnew 300).pending ++ wrs a0 0 (secs a1 a2 a3), -1⟩ := by
            have hv := lay_view (d := dnew 300) (lim := 300 - a0) L hsb heb (by omega : 0 ≤ a0) (m := (secs a1 a2 a3).length) (Nat.le_refl _) (-1)
            rw [List.take_length, secs_len] at hv
            refine ⟨?_, rfl, RgA.lay hv (fun p _ s hs => by rw [fa_new] at hs; cases hs), fun p s hs => ?_, ?_⟩
            · have := W0.fine (a := a0) L (by omega) (by omega) (secs a1 a2 a3).length (f := -1) (by omega)
              rw [List.take_length] at this
              exact this
            · rw [hv p] at hs
              by_cases c : p < nparts a2 + a3.length
              · rw [if_pos c] at hs
                rw [← Option.some.inj hs]; rfl
              · rw [if_neg c, fa_new] at hs; cases hs
            · rw [List.length_nil]; omega
          have hpl : (wrs a0 0 (secs a1 a2 a3)).length ≤ 300 := by rw [wrs_len, secs_len]; omega
          have hpl : (⟨(dnew 300).sectors, (dnew 300).torn, (dnew 300).pending ++ wrs a0 0 (secs a1 a2 a3), -1⟩ : disk_Disk).pending.length ≤ 300 := by
            show ((dnew 300).pending ++ wrs a0 0 (secs a1 a2 a3)).length ≤ 300
            rw [List.length_append]; show 0 + _ ≤ 300; omega
          generalize (⟨(dnew 300).sectors, (dnew 300).torn, (dnew 300).pending ++ wrs a0 0 (secs a1 a2 a3), -1⟩ : disk_Disk) = d0 at B0 hpl ⊢
          have key : ∃ r, lp (law17_RegionBack_b0 a0 a1 a2 a3 a4) (0, [], d0) = some r ∧ ∃ M d, r = .inl (M, d) ∧ Bk a0 a1 a2 a3 M d := by
            refine lp_all (fun k (s : Int × List (List Int) × disk_Disk) => s.1 = (k : Int) ∧ Bk a0 a1 a2 a3 s.2.1 s.2.2 ∧ s.2.2.pending.length ≤ 300 + k) _ a4.length (by omega) ⟨rfl, B0, hpl⟩ ?_ ?_
            · rintro k ⟨x, M, d⟩ hk ⟨hx, B, hp⟩
              dsimp only at hx B hp
              subst hx
              have hBl := B.l
              have hey := (g4.2 _ (getD_mem hk [])).2
              generalize hE : a4.getD k [] = E at hey
              unfold law17_RegionBack_b0
              dsimp only
              rw [if_pos (by omega), if_pos (by omega), Int.toNat_natCast, hE, e0, e1, put_eq (by omega) (by dsimp only; omega) hey (by omega), putV_ok L]
              dsimp only [Option.bind_some]
              by_cases c1 : enOk E
              · rw [if_neg (not_not_intro c1)]
                by_cases c2 : ((nparts a2 + (a3.length + M.length) : Nat) : Int) ≥ 300 - a0
                · rw [if_pos c2]
                  dsimp only
                  rw [if_neg (by decide), if_pos (by decide)]
                  dsimp only [Option.bind_some]
                  rw [if_neg (by simp)]
                  dsimp only [Option.bind_some]
                  rw [B.read L g0]
                  dsimp only [Option.bind_some]
                  rw [if_pos rfl, B.same g0]
                  dsimp only [Option.bind_some]
                  rw [if_pos rfl, w64n (by omega)]
                  exact ⟨_, rfl, rfl, B, by dsimp only; omega⟩
                · rw [if_neg c2]
                  obtain ⟨f1, f2, _⟩ := put_fine (n := 300) (a := a0) (lim := 300 - a0) (more := M) B.w (by rw [B.f]; decide) L c1 hey (by omega) (by omega) (by decide) (by omega)
                  have W2 := B.w.wr (a0 + ((nparts a2 + (a3.length + M.length) : Nat) : Int)) (putOf (entAt a1 a2 a3 M E))
                  have hf2 : (wr d (a0 + ((nparts a2 + (a3.length + M.length) : Nat) : Int)) (putOf (entAt a1 a2 a3 M E))).2.fuse = -1 := by
                    rw [f1]; show (lower d).fuse = -1; rw [lower_fuse B.w, B.f]; decide
                  have h0 : (wr d (a0 + ((nparts a2 + (a3.length + M.length) : Nat) : Int)) (putOf (entAt a1 a2 a3 M E))).1 = 0 := by rw [f1]
                  have B2 : Bk a0 a1 a2 a3 (M ++ [E]) (wr d (a0 + ((nparts a2 + (a3.length + M.length) : Nat) : Int)) (putOf (entAt a1 a2 a3 M E))).2 := by
                    refine ⟨W2.1, hf2, B.r.put f2, fun p s hs => ?_, ?_⟩
                    · rw [f2 p] at hs
                      by_cases c : p = nparts a2 + (a3.length + M.length)
                      · rw [if_pos c] at hs
                        rw [← Option.some.inj hs]; rfl
                      · rw [if_neg c] at hs
                        exact B.g p s hs
                    · rw [List.length_append, List.length_singleton]; omega
                  rw [h0, if_pos rfl, if_pos (by omega), if_pos (by omega), if_pos (by omega)]
                  dsimp only [Option.bind_some]
                  rw [B2.read L g0]
                  dsimp only [Option.bind_some]
                  rw [if_pos rfl, B2.same g0]
                  dsimp only [Option.bind_some]
                  rw [if_pos rfl, w64n (by omega)]
                  exact ⟨_, rfl, rfl, B2, by have := W2.2; dsimp only; omega⟩
              · rw [if_pos c1]
                dsimp only
                rw [if_neg (by decide), if_neg (by decide)]
                dsimp only [Option.bind_some]
                rw [if_neg (by simp)]
                dsimp only [Option.bind_some]
                rw [B.read L g0]
                dsimp only [Option.bind_some]
                rw [if_pos rfl, B.same g0]
                dsimp only [Option.bind_some]
                rw [if_pos rfl, w64n (by omega)]
                exact ⟨_, rfl, rfl, B, by dsimp only; omega⟩
            · rintro ⟨x, M, d⟩ ⟨hx, B, hp⟩
              dsimp only at hx B hp
              subst hx
              exact ⟨_, by unfold law17_RegionBack_b0; dsimp only; rw [if_neg (by omega)], M, d, rfl, B⟩
          obtain ⟨r, h5, M, d, rfl, B⟩ := key
          rw [h5]
          dsimp only [Option.bind_some]
          rw [B.read L g0]
          dsimp only [Option.bind_some]
          rw [if_pos rfl, if_pos rfl, B.same g0]
          dsimp only [Option.bind_some]
          rw [if_pos rfl, greatest_eq B.w (by decide) (by omega)]
          dsimp only [Option.bind_some]
          obtain ⟨s0, hs0, _⟩ := lk_some (B.r.has 0 (by omega))
          rw [gr_one L.g.1 B.g hs0 4999]
          simp
end Go.Proofs.Ytdkdaggpfgajlaa
