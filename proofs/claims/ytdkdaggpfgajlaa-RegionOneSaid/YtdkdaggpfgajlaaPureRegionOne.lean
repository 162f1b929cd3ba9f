/- The statement RegionOne: plain Lean. -/
import Derived.Test.YtdkdaggpfgajlaaRegL
import Derived.Test.YtdkdaggpfgajlaaSecR
import Derived.Test.YtdkdaggpfgajlaaReads
import Derived.Test.YtdkdaggpfgajlaaGRegionOne
set_option linter.unusedVariables false
set_option linter.unusedSimpArgs false
namespace Go.Proofs.Ytdkdaggpfgajlaa
open Go Go.RowKit
/-- Beside a region nothing of it is read. -/
theorem fa_beside {v v' : View} {a lim : Int} (h : ∀ i, a ≤ i → i < a + lim → v i = v' i) : fa v a lim = fa v' a lim := by
  funext p
  unfold fa sa
  by_cases c : (p : Int) < lim ∧ 0 ≤ a
  · rw [if_pos c, if_pos c, h _ (by omega) (by omega)]
  · rw [if_neg c, if_neg c]
theorem rdv_wr_far {n : Nat} {d : disk_Disk} (W : WFd n d) (k : Int) (b : List Int) {i : Int} (h : i ≠ k) : rdv (wr d k b).2 i = rdv d i := by
  unfold wr
  by_cases c1 : d.fuse = 0
  · rw [if_pos c1]
  · rw [if_neg c1]
    by_cases c2 : (b.length : Int) ≠ 64
    · rw [if_pos c2]; rfl
    · rw [if_neg c2]
      by_cases c3 : 0 ≤ k ∧ k < (d.sectors.length : Int)
      · rw [if_pos c3]
        dsimp only
        rw [rdv_snoc _ _ _ _ _ d.fuse]
        exact if_neg fun hh => h hh.symm
      · rw [if_neg c3]; rfl
theorem pure_RegionOne (a0 : Int) (a1 : List Int) (a2 : List (List Int)) (a3 a4 : Int) (g0 : (Lit.int .i64 a0).wf = true) (g1 : a1.length ≤ maxLen ∧ ∀ y ∈ a1, 0 ≤ y ∧ y < 256) (g2 : a2.length ≤ maxLen ∧ ∀ y ∈ a2, y.length ≤ maxLen ∧ ∀ z ∈ y, 0 ≤ z ∧ z < 256) {q3 q4 : Prop} (g3 : q3) (g4 : q4) : law17_RegionOne_f a0 a1 a2 a3 a4 = some true := by
  have hsb : Bytes a1 := g1.2
  have heb : ∀ e ∈ a2, Bytes e := fun e he => (g2.2 e he).2
  unfold law17_RegionOne_f
  rw [head17_eq]
  dsimp only [Option.bind_some]
  by_cases c2 : (a1.length : Int) > 3000
  · rw [if_pos c2]
  · rw [if_neg c2]
    obtain ⟨b1, r1, h1⟩ := rows_eq a2 g2.1
    rw [r1]
    dsimp only [Option.bind_some]
    cases b1 with
    | true => rfl
    | false =>
      rw [if_neg (by simp), show disk_New_f 400 = some (some (dnew 400)) from new_eq (n := 400) (by decide)]
      dsimp only [Option.bind_some]
      have W0 := WFd.new 400
      rw [lay_eq (by omega) hsb heb W0 (Nat.zero_le _)]
      dsimp only [Option.bind_some]
      have key : ∃ e d x is, layV (dnew 400) 100 200 a0 a1 a2 = (e, d) ∧ WFd 400 d ∧ d.pending.length ≤ 2000 ∧ rdR (fa (rdv d) 100 200) 200 = (x, is) ∧ is = decide (e = 0) ∧ x.Kept.length ≤ 9000 ∧ x.More.length ≤ 9000 := by
        rcases layV_cases (dnew 400) 100 200 a0 a1 a2 with h | h | ⟨L, _⟩
        · exact ⟨1, dnew 400, RG0, false, h, W0, Nat.zero_le _, rdR_new 100 200, rfl, Nat.zero_le _, Nat.zero_le _⟩
        · exact ⟨5, dnew 400, RG0, false, h, W0, Nat.zero_le _, rdR_new 100 200, rfl, Nat.zero_le _, Nat.zero_le _⟩
        · have hr := L.r
          have hv := lay_view (d := dnew 400) (lim := 200) L hsb heb (by omega : 0 ≤ (100 : Int)) (m := (secs a0 a1 a2).length) (Nat.le_refl _) (-1)
          have Wf := W0.fine (a := 100) L (by omega) (by omega) (secs a0 a1 a2).length (f := -1) (by omega)
          rw [List.take_length] at hv Wf
          rw [secs_len] at hv
          have RA := RgA.lay hv (fun p _ s hs => by rw [fa_new] at hs; cases hs)
          refine ⟨0, _, ⟨a0, a1, a2, []⟩, true, lay_fine W0 rfl L hsb heb (by omega) (by omega), Wf, ?_, RA.rg.read L.s (by rw [List.append_nil]; omega) L.r, rfl, by have := L.k; dsimp only; omega, Nat.zero_le _⟩
          show ((dnew 400).pending ++ wrs 100 0 (secs a0 a1 a2)).length ≤ 2000
          rw [List.length_append, wrs_len, secs_len]
          show 0 + _ ≤ 2000
          omega
      obtain ⟨e, d, x, is, e1, W, hp, e2, e3, hx1, hx2⟩ := key
      rw [e1]
      dsimp only
      rw [region_read_eq W (by decide) (by omega), greatest_eq W (by decide) (by omega), e2]
      dsimp only [Option.bind_some]
      generalize (IntKind.i64.wrap a4).tmod 400 = k0
      have ek : ∃ k : Int, (k < 100 ∨ 300 ≤ k) ∧ ∀ (F : Int → Option Bool), ((((if k0 ≥ 100 then some ((decide (k0 < 300))) else some false) : Option (Bool)).bind fun x26 => (((if x26 = true then some ((IntKind.i64.wrap (k0 - 100))) else some k0) : Option (Int)).bind fun x29 => (((if x29 ≥ 100 then some ((decide (x29 < 300))) else some false) : Option (Bool)).bind fun x32 => (((if x32 = true then some 0 else some x29) : Option (Int)).bind F))))) = F k := by
        have step : ∀ z : Int, ((if z ≥ 100 then some ((decide (z < 300))) else some false) : Option Bool) = some (decide (100 ≤ z ∧ z < 300)) := by
          intro z
          by_cases c : z ≥ 100
          · rw [if_pos c]; congr 1; exact decide_eq_decide.2 (by omega)
          · rw [if_neg c]; congr 1; exact (decide_eq_false (by omega)).symm
        by_cases c : 100 ≤ k0 ∧ k0 < 300
        · have ew : IntKind.i64.wrap (k0 - 100) = k0 - 100 := w64 (by omega) (by omega)
          by_cases c5 : 100 ≤ k0 - 100 ∧ k0 - 100 < 300
          · refine ⟨0, by omega, fun F => ?_⟩
            rw [step, decide_eq_true c]
            dsimp only [Option.bind_some]
            rw [if_pos rfl, ew]
            dsimp only [Option.bind_some]
            rw [step, decide_eq_true c5]
            dsimp only [Option.bind_some]
            rw [if_pos rfl]; rfl
          · refine ⟨k0 - 100, by omega, fun F => ?_⟩
            rw [step, decide_eq_true c]
            dsimp only [Option.bind_some]
            rw [if_pos rfl, ew]
            dsimp only [Option.bind_some]
            rw [step, decide_eq_false c5]
            dsimp only [Option.bind_some]
            rw [if_neg (by simp)]; rfl
        · refine ⟨k0, by omega, fun F => ?_⟩
          rw [step, decide_eq_false c]
          dsimp only [Option.bind_some]
          rw [if_neg (by simp)]
          dsimp only [Option.bind_some]
          rw [step, decide_eq_false c]
          dsimp only [Option.bind_some]
          rw [if_neg (by simp)]; rfl
      obtain ⟨k, hk, eF⟩ := ek
      rw [eF, fill_eq]
      dsimp only [Option.bind_some]
      have W1 := W.wr k (List.replicate 64 a3)
      rw [write_eq d _ _ (by omega)]
      dsimp only [Option.bind_some]
      rw [ref_Put_run _ (by intro z hz; simp at hz; omega)]
      dsimp only [Option.bind_some]
      have hW2 := W1.1.wr 399 (putOf ⟨281474976710656, 0, 1, 0, [1]⟩)
      rw [write_eq _ _ _ (by have := W1.2; omega)]
      dsimp only [Option.bind_some]
      have hfa : fa (rdv (wr (wr d k (List.replicate 64 a3)).2 399 (putOf ⟨281474976710656, 0, 1, 0, [1]⟩)).2) 100 200 = fa (rdv d) 100 200 := fa_beside fun i h3 h4 => by
        rw [rdv_wr_far W1.1 _ _ (by omega), rdv_wr_far W _ _ (by omega)]
      rw [region_read_eq hW2.1 (by decide) (by omega), hfa, e2]
      dsimp only [Option.bind_some]
      rw [if_pos rfl, if_pos (by simp), e3, if_pos (by simp), same_eq _ _ (by omega) (by omega), decide_eq_true rfl]
      dsimp only [Option.bind_some]
      rw [if_pos rfl, greatest_eq hW2.1 (by decide) (by omega), hfa]
      simp
end Go.Proofs.Ytdkdaggpfgajlaa
