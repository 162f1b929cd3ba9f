/- The statement DiskStill: plain Lean. -/
import Derived.Test.YtddfdbpjldcjiaaDiskB
import Derived.Test.YtddfdbpjldcjiaaGDiskStill
set_option linter.unusedVariables false
set_option linter.unusedSimpArgs false
namespace Go.Proofs.Ytddfdbpjldcjiaa
open Go Go.RowKit
theorem wr_zero {d : disk_Disk} (h : d.fuse = 0) (i : Int) (b : List Int) : wr d i b = (42, d) := by unfold wr; rw [if_pos h]
theorem wr_pos {n : Nat} {d : disk_Disk} (W : WFd n d) (h : d.fuse ≠ 0) (i : Int) (b : List Int) : (wr d i b).1 ≠ 42 ∧ (wr d i b).2.fuse = max (d.fuse - 1) (-1) := by
  have e := lower_fuse W
  unfold wr
  rw [if_neg h]
  by_cases c2 : (b.length : Int) ≠ 64
  · rw [if_pos c2]; exact ⟨by simp, e⟩
  · rw [if_neg c2]
    by_cases c3 : 0 ≤ i ∧ i < (d.sectors.length : Int)
    · rw [if_pos c3]; exact ⟨by simp, e⟩
    · rw [if_neg c3]; exact ⟨by simp, e⟩
theorem sy_zero {d : disk_Disk} (h : d.fuse = 0) : sy d = (42, d) := by unfold sy; rw [if_pos h]
theorem sy_pos {n : Nat} {d : disk_Disk} (W : WFd n d) (h : d.fuse ≠ 0) : (sy d).1 = 0 ∧ (sy d).2.fuse = max (d.fuse - 1) (-1) := by
  unfold sy
  rw [if_neg h]
  exact ⟨rfl, lower_fuse W⟩
theorem dov_still {n : Nat} {d : disk_Disk} (W : WFd n d) {o : law15_Op} (h7 : o.What ≠ 7) (h8 : o.What ≠ 8) : (d.fuse = 0 → dov d o = (42, d)) ∧ (d.fuse ≠ 0 → (dov d o).1 ≠ 42 ∧ (dov d o).2.fuse = max (d.fuse - 1) (-1)) := by
  unfold dov
  by_cases c4 : o.What = 4
  · rw [if_pos c4]; exact ⟨fun h => wr_zero h _ _, fun h => wr_pos W h _ _⟩
  · rw [if_neg c4]
    by_cases c5 : o.What = 5 ∨ o.What = 6
    · rw [if_pos c5]
      refine ⟨fun h => sy_zero h, fun h => ⟨?_, (sy_pos W h).2⟩⟩
      rw [(sy_pos W h).1]; decide
    · rw [if_neg c5, if_neg h7, if_neg h8]; exact ⟨fun h => wr_zero h _ _, fun h => wr_pos W h _ _⟩
theorem pure_DiskStill (a0 : Int) (a1 : List law15_Op) (g0 : 0 ≤ a0 ∧ a0 < 256) (g1 : a1.length ≤ maxLen ∧ ∀ y ∈ a1, good_law15_Op y) : law15_DiskStill_f a0 a1 = some true := by
  unfold law15_DiskStill_f
  rw [head_eq, show disk_New_f 6 = some (some (dnew 6)) from new_eq (n := 6) (by decide)]
  dsimp only [Option.bind_some]
  obtain ⟨b, hb, hlen⟩ := great_eq a1 g1.1
  rw [hb]
  dsimp only [Option.bind_some]
  cases b with
  | true => rfl
  | false =>
    rw [if_neg (by simp)]
    have hl := hlen rfl
    have hw : IntKind.i64.wrap a0 = a0 := w64 (by omega) (by omega)
    rw [show disk_Disk_Fuse_f (dnew 6) (IntKind.i64.wrap a0) = some (fus (dnew 6) a0) from by rw [hw]; rfl]
    dsimp only [Option.bind_some]
    have key : ∃ r, lp (law15_DiskStill_b0 a0 a1) (0, 0, fus (dnew 6) a0) = some r ∧ ∃ d, r = .inl d ∧ WFd 6 d ∧ d.pending.length ≤ 1000 := by
      refine lp_all (fun k (s : Int × Int × disk_Disk) => s.2.1 = (k : Int) ∧ 0 ≤ s.1 ∧ s.1 ≤ (k : Int) ∧ WFd 6 s.2.2 ∧ s.2.2.pending.length ≤ k ∧ s.2.2.fuse = max (a0 - s.1) 0) _ a1.length (by omega) ⟨rfl, by omega, by omega, (WFd.new 6).fus (by omega), Nat.zero_le _, by show max a0 (-1) = max (a0 - 0) 0; omega⟩ ?_ ?_
      · rintro k ⟨c, x, d⟩ hk ⟨hx, hc0, hc1, W, hp, hf⟩
        dsimp only at hx hc0 hc1 W hp hf
        subst hx
        unfold law15_DiskStill_b0
        dsimp only
        rw [if_pos (by omega), if_pos (by omega), Int.toNat_natCast, hw, w64n (by omega)]
        have go := g1.2 _ (getD_mem hk OP0)
        by_cases c7 : (a1.getD k OP0).What = 7
        · rw [if_pos c7]; exact ⟨_, rfl, rfl, hc0, by dsimp only; omega, W, by dsimp only; omega, hf⟩
        · rw [if_neg c7]
          by_cases c8 : (a1.getD k OP0).What = 8
          · rw [if_pos c8]; exact ⟨_, rfl, rfl, hc0, by dsimp only; omega, W, by dsimp only; omega, hf⟩
          · rw [if_neg c8]
            have W' := W.dov go
            obtain ⟨hz, hnz⟩ := dov_still W c7 c8
            rw [do_eq W (by omega), w64 (x := c + 1) (by omega) (by omega)]
            dsimp only [disk_Disk_Pending_f, Option.bind_some]
            by_cases cz : c ≥ a0
            · have hz' := hz (by omega)
              rw [hz', decide_eq_true cz]
              rw [if_neg (by simp), if_pos cz]
              dsimp only [Option.bind_some]
              rw [if_neg (by simp)]
              exact ⟨_, rfl, rfl, by dsimp only; omega, by dsimp only; omega, W, by dsimp only; omega, by dsimp only; omega⟩
            · have hz' := hnz (by omega)
              rw [decide_eq_false cz, decide_eq_false hz'.1]
              rw [if_neg (by simp), if_neg cz]
              dsimp only [Option.bind_some]
              rw [if_neg (by simp)]
              exact ⟨_, rfl, rfl, by dsimp only; omega, by dsimp only; omega, W'.1, Nat.le_trans W'.2 (Nat.succ_le_succ hp), by rw [hz'.2]; dsimp only; omega⟩
      · rintro ⟨c, x, d⟩ ⟨hx, hc0, hc1, W, hp, hf⟩
        dsimp only at hx hc0 hc1 W hp hf
        subst hx
        exact ⟨_, by unfold law15_DiskStill_b0; dsimp only; rw [if_neg (by omega)], d, rfl, W, by omega⟩
    obtain ⟨r, h1, d, rfl, W, hp⟩ := key
    rw [h1]
    dsimp only [Option.bind_some]
    rw [crash_eq W (by omega)]
    dsimp only [Option.bind_some]
    have W2 := W.cra [] (-1)
    rw [if_pos rfl, sync_eq W2 (Nat.zero_le _)]
    dsimp only [Option.bind_some]
    rw [(sy_pos W2 (by show (-1 : Int) ≠ 0; decide)).1]
    rfl
end Go.Proofs.Ytddfdbpjldcjiaa
