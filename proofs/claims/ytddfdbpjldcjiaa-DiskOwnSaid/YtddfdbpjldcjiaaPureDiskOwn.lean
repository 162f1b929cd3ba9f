/- The statement DiskOwn: plain Lean. -/
import Derived.Test.YtddfdbpjldcjiaaDiskB
import Derived.Test.YtddfdbpjldcjiaaGDiskOwn
set_option linter.unusedVariables false
set_option linter.unusedSimpArgs false
namespace Go.Proofs.Ytddfdbpjldcjiaa
open Go Go.RowKit
theorem own_b0 (l : List Int) (h : l.length ≤ 64) : lp law15_DiskOwn_b0 (l, 0) = some () := by
  have key : ∃ r, lp law15_DiskOwn_b0 (l, 0) = some r ∧ True := by
    refine lp_all (fun k (s : List Int × Int) => s.2 = (k : Int) ∧ s.1.length = l.length) _ l.length (by omega) ⟨rfl, rfl⟩ ?_ ?_
    · rintro k ⟨m, x⟩ hk ⟨hx, hm⟩
      dsimp only at hx hm
      subst hx
      refine ⟨(m.set k 77, ((k + 1 : Nat) : Int)), ?_, rfl, by simpa using hm⟩
      unfold law15_DiskOwn_b0
      dsimp only
      rw [if_pos (by omega), if_pos (by omega), Int.toNat_natCast, w64n (by omega)]
    · rintro ⟨m, x⟩ ⟨hx, hm⟩
      dsimp only at hx hm
      subst hx
      exact ⟨(), by unfold law15_DiskOwn_b0; dsimp only; rw [if_neg (by omega)], trivial⟩
  obtain ⟨r, h1, _⟩ := key
  exact h1
theorem pure_DiskOwn (a0 : Int) (a1 : Bool) (g0 : 0 ≤ a0 ∧ a0 < 256) : law15_DiskOwn_f a0 a1 = some true := by
  unfold law15_DiskOwn_f
  rw [head_eq, show disk_New_f 1 = some (some (dnew 1)) from new_eq (n := 1) (by decide)]
  dsimp only [Option.bind_some]
  rw [fill_eq]
  dsimp only [Option.bind_some]
  rw [write_bor_eq _ _ _ (by simp [dnew])]
  dsimp only [Option.bind_some]
  have W0 := WFd.new 1
  obtain ⟨W1, hp1⟩ := W0.wr 0 (List.replicate 64 a0)
  have hr1 : rdv (wr (dnew 1) 0 (List.replicate 64 a0)).2 0 = (List.replicate 64 a0, 0) := by
    rw [rdv_wr (by decide) (by simp) (by decide), if_pos rfl, arr_fill g0]
  generalize (wr (dnew 1) 0 (List.replicate 64 a0)).2 = d at W1 hp1 hr1 ⊢
  have hd0 : (dnew 1).pending.length = 0 := rfl
  have e : ∃ x, ((if a1 = true then ((disk_Disk_Sync_f d).bind fun (p : Int × disk_Disk) => some p.2) else some d) : Option disk_Disk) = some x ∧ WFd 1 x ∧ rdv x 0 = (List.replicate 64 a0, 0) := by
    cases a1 with
    | true => rw [if_pos rfl, sync_eq W1 (by omega)]; exact ⟨_, rfl, W1.sy.1, by rw [rdv_sy W1]; exact hr1⟩
    | false => rw [if_neg (by simp)]; exact ⟨_, rfl, W1, hr1⟩
  obtain ⟨x, e, Wx, hx⟩ := e
  rw [e]
  dsimp only [Option.bind_some]
  rw [if_pos (by simp), read_eq Wx, hx]
  dsimp only [Option.bind_some]
  rw [own_b0 _ (by simp)]
  simp
end Go.Proofs.Ytddfdbpjldcjiaa
