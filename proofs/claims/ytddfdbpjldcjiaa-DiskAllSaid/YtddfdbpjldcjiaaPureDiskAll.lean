/- The statement DiskAll: plain Lean. -/
import Derived.Test.YtddfdbpjldcjiaaDiskB
import Derived.Test.YtddfdbpjldcjiaaGDiskAll
set_option linter.unusedVariables false
set_option linter.unusedSimpArgs false
namespace Go.Proofs.Ytddfdbpjldcjiaa
open Go Go.RowKit
theorem all_b1 {d : disk_Disk} (W : WFd 6 d) : lp (law15_DiskAll_b1 d) ([], [], 0) = some ((List.range 6).map (fun (j : Nat) => (rdv d (j : Int)).1), (List.range 6).map (fun (j : Nat) => (rdv d (j : Int)).2)) := by
  have key : ∃ r, lp (law15_DiskAll_b1 d) ([], [], 0) = some r ∧ r = ((List.range 6).map (fun (j : Nat) => (rdv d (j : Int)).1), (List.range 6).map (fun (j : Nat) => (rdv d (j : Int)).2)) := by
    refine lp_all (fun k (s : List (List Int) × List Int × Int) => s = ((List.range k).map (fun (j : Nat) => (rdv d (j : Int)).1), (List.range k).map (fun (j : Nat) => (rdv d (j : Int)).2), (k : Int))) _ 6 (by decide) rfl ?_ ?_
    · rintro k s hk rfl
      refine ⟨_, ?_, rfl⟩
      unfold law15_DiskAll_b1
      dsimp only
      rw [if_pos (by omega), read_eq W]
      dsimp only [Option.bind_some]
      rw [if_pos (by simp; omega), if_pos (by simp; omega), w64n (by omega), List.range_succ]
      simp
    · rintro s rfl
      refine ⟨_, ?_, rfl⟩
      unfold law15_DiskAll_b1
      dsimp only
      rw [if_neg (by decide)]
  obtain ⟨r, h1, rfl⟩ := key
  exact h1
theorem all_b2 : lp law15_DiskAll_b2 (List.replicate (300 : Int).toNat false, 0) = some (List.replicate 300 true) := by
  have key : ∃ r, lp law15_DiskAll_b2 (List.replicate (300 : Int).toNat false, 0) = some r ∧ r = List.replicate 300 true := by
    refine lp_all (fun k (s : List Bool × Int) => s.2 = (k : Int) ∧ s.1 = List.replicate k true ++ List.replicate (300 - k) false) _ 300 (by decide) ⟨rfl, rfl⟩ ?_ ?_
    · rintro k ⟨l, x⟩ hk ⟨hx, hl⟩
      dsimp only at hx hl
      subst hx hl
      refine ⟨(List.replicate (k + 1) true ++ List.replicate (300 - (k + 1)) false, ((k + 1 : Nat) : Int)), ?_, rfl, rfl⟩
      unfold law15_DiskAll_b2
      dsimp only
      have hl : (List.replicate k true ++ List.replicate (300 - k) false).length = 300 := by simp; omega
      rw [if_pos (by omega), if_pos (by rw [hl]; omega), Int.toNat_natCast, w64n (by omega)]
      have h1 : 300 - k = (300 - (k + 1)) + 1 := by omega
      rw [h1, List.replicate_succ, List.set_append_right _ _ (by simp), List.length_replicate, Nat.sub_self, List.set_cons_zero, List.replicate_succ' (n := k)]
      simp
    · rintro ⟨l, x⟩ ⟨hx, hl⟩
      dsimp only at hx hl
      subst hx hl
      exact ⟨List.replicate 300 true ++ List.replicate (300 - 300) false, by unfold law15_DiskAll_b2; dsimp only; rw [if_neg (by decide)], by rw [Nat.sub_self]; exact List.append_nil _⟩
  obtain ⟨r, h1, rfl⟩ := key
  exact h1
theorem map_getD {α : Type} (f : Nat → α) {k n : Nat} (h : k < n) (z : α) : ((List.range n).map f).getD k z = f k := by
  rw [List.getD_eq_getElem?_getD, List.getElem?_map, List.getElem?_range h]; rfl
theorem pure_DiskAll (a0 : List law15_Op) (g0 : a0.length ≤ maxLen ∧ ∀ y ∈ a0, good_law15_Op y) : law15_DiskAll_f a0 = some true := by
  unfold law15_DiskAll_f
  rw [head_eq, show disk_New_f 6 = some (some (dnew 6)) from new_eq (n := 6) (by decide)]
  dsimp only [Option.bind_some]
  obtain ⟨b, hb, hlen⟩ := great_eq a0 g0.1
  rw [hb]
  dsimp only [Option.bind_some]
  cases b with
  | true => rfl
  | false =>
    rw [if_neg (by simp)]
    obtain ⟨d, h1, W, hp, _⟩ := run_lp (f := law15_DiskAll_b0 a0) a0 (hlen rfl) g0.2 (fun _ _ => rfl) (WFd.new 6) (by simp [dnew])
    have hp' : d.pending.length ≤ 300 := by have := hlen rfl; simp [dnew] at hp; omega
    rw [h1]
    dsimp only [Option.bind_some]
    rw [all_b1 W]
    dsimp only [Option.bind_some]
    rw [if_pos (by decide), all_b2]
    dsimp only [Option.bind_some]
    rw [crash_eq W (by omega)]
    dsimp only [Option.bind_some]
    have W2 := W.cra (List.replicate 300 true) (-1)
    rw [crash_eq W2 (Nat.zero_le _)]
    dsimp only [Option.bind_some]
    have W3 := W2.cra [] 0
    have hr : ∀ i, rdv (cra (cra d (List.replicate 300 true) (-1)) [] 0) i = rdv d i := by
      intro i
      rw [rdv_cra_empty W2 rfl, rdv_cra W, crV_all _ _ _ _ _ _ fun j _ h2 => ⟨?_, by omega⟩]
      · rfl
      · rw [List.getD_eq_getElem?_getD, List.getElem?_replicate, if_pos (by omega)]; rfl
    generalize hx : cra (cra d (List.replicate 300 true) (-1)) [] 0 = x at W3 hr ⊢
    have key : ∃ r, lp (law15_DiskAll_b3 ((List.range 6).map (fun (j : Nat) => (rdv d (j : Int)).1)) ((List.range 6).map (fun (j : Nat) => (rdv d (j : Int)).2)) x) 0 = some r ∧ r = .inl () := by
      refine lp_all (fun k (s : Int) => s = (k : Int)) _ 6 (by decide) rfl ?_ ?_
      · rintro k s hk rfl
        refine ⟨_, ?_, rfl⟩
        unfold law15_DiskAll_b3
        dsimp only
        rw [if_pos (by omega), read_eq W3, hr]
        dsimp only [Option.bind_some]
        rw [if_pos (by simp; omega), Int.toNat_natCast, map_getD _ hk, if_neg (by simp), if_pos (by simp; omega), map_getD _ hk]
        dsimp only [Option.bind_some]
        rw [if_neg (by simp), w64n (by omega)]
      · rintro s rfl
        refine ⟨_, ?_, rfl⟩
        unfold law15_DiskAll_b3
        dsimp only
        rw [if_neg (by decide)]
    obtain ⟨r, h2, rfl⟩ := key
    rw [h2]
    rfl
end Go.Proofs.Ytddfdbpjldcjiaa
