/- The statement DiskPlays: plain Lean. -/
import Derived.Test.YtddfdbpjldcjiaaDiskR
import Derived.Test.YtddfdbpjldcjiaaGDiskPlays
set_option linter.unusedVariables false
set_option linter.unusedSimpArgs false
namespace Go.Proofs.Ytddfdbpjldcjiaa
open Go Go.RowKit
theorem plays_b1 {n : Nat} (hn : n ≤ 60) {d : disk_Disk} {r : ref15_Disk} (R : Rf n d r) (W : WFd n d) (hm : d.pending.length ≤ 1000000) : lp (law15_DiskPlays_b1 (n : Int) d r) (-1) = some (.inl ()) := by
  have key : ∃ q, lp (law15_DiskPlays_b1 (n : Int) d r) (-1) = some q ∧ q = .inl () := by
    refine lp_all (fun k (s : Int) => s = (k : Int) - 1) _ (n + 2) (by omega) rfl ?_ ?_
    · rintro k s hk rfl
      refine ⟨((k + 1 : Nat) : Int) - 1, ?_, rfl⟩
      unfold law15_DiskPlays_b1
      dsimp only
      rw [if_pos (by omega), rread_eq R W hm, read_eq W]
      dsimp only [Option.bind_some]
      rw [if_neg (by simp), if_neg (by simp), w64 (by omega) (by omega)]
      congr 2
      omega
    · rintro s rfl
      refine ⟨_, ?_, rfl⟩
      unfold law15_DiskPlays_b1
      dsimp only
      rw [if_neg (by omega)]
  obtain ⟨q, h1, rfl⟩ := key
  exact h1
theorem plays_b0 {n : Nat} (hn : n ≤ 60) (a1 : List law15_Op) (hl : a1.length ≤ 300) (g : ∀ y ∈ a1, good_law15_Op y) : ∃ x, lp (law15_DiskPlays_b0 (n : Int) a1) (0, dnew n, rnew n) = some (.inl x) := by
  have key : ∃ q, lp (law15_DiskPlays_b0 (n : Int) a1) (0, dnew n, rnew n) = some q ∧ ∃ x, q = .inl x := by
    refine lp_all (fun k (s : Int × disk_Disk × ref15_Disk) => s.1 = (k : Int) ∧ WFd n s.2.1 ∧ s.2.1.pending.length ≤ k ∧ Rf n s.2.1 s.2.2) _ a1.length (by omega) ⟨rfl, WFd.new n, Nat.zero_le _, Rf.new n⟩ ?_ ?_
    · rintro k ⟨x, d, r⟩ hk ⟨hx, W, hp, R⟩
      dsimp only at hx W hp R
      subst hx
      have go := g _ (getD_mem hk OP0)
      have W2 := W.dov go
      obtain ⟨r', h1, R2⟩ := plain_eq R W (by omega) go
      have hp2 : (dov d (a1.getD k OP0)).2.pending.length ≤ k + 1 := Nat.le_trans W2.2 (Nat.succ_le_succ hp)
      refine ⟨(((k + 1 : Nat) : Int), (dov d (a1.getD k OP0)).2, r'), ?_, rfl, W2.1, hp2, R2⟩
      unfold law15_DiskPlays_b0
      dsimp only
      rw [if_pos (by omega), if_pos (by omega), if_pos (by omega), Int.toNat_natCast, do_eq W (by omega)]
      dsimp only [Option.bind_some]
      rw [h1]
      dsimp only [Option.bind_some, disk_Disk_Pending_f, ref15_Disk_Pending_f, disk_Disk_Sectors_f]
      rw [if_neg (by simp), R2.plen, if_neg (by simp), W2.1.len]
      dsimp only [Option.bind_some]
      rw [if_neg (by simp), plays_b1 hn R2 W2.1 (by omega)]
      dsimp only [Option.bind_some]
      rw [w64n (by omega)]
    · rintro ⟨x, d, r⟩ ⟨hx, W, hp, R⟩
      dsimp only at hx W hp R
      subst hx
      exact ⟨_, by unfold law15_DiskPlays_b0; dsimp only; rw [if_neg (by omega)], _, rfl⟩
  obtain ⟨q, h1, x, rfl⟩ := key
  exact ⟨x, h1⟩
theorem pure_DiskPlays (a0 : Int) (a1 : List law15_Op) {p : Prop} (g0 : p) (g1 : a1.length ≤ maxLen ∧ ∀ y ∈ a1, good_law15_Op y) : law15_DiskPlays_f a0 a1 = some true := by
  unfold law15_DiskPlays_f
  rw [head_eq]
  dsimp only [Option.bind_some]
  obtain ⟨b, hb, hlen⟩ := great_eq a1 g1.1
  rw [hb]
  dsimp only [Option.bind_some]
  cases b with
  | true => rfl
  | false =>
    rw [if_neg (by simp)]
    by_cases c1 : a0 > 60
    · rw [if_pos c1]
      dsimp only [Option.bind_some]
      by_cases c2 : a0 ≤ 4096
      · rw [if_pos (decide_eq_true c2)]
      · rw [if_neg (by simpa using c2)]
        have e1 : disk_New_f a0 = some none := by unfold disk_New_f; rw [if_neg (by omega), if_pos (by omega)]
        have e2 : ref15_New_f a0 = some none := by unfold ref15_New_f; rw [if_neg (by omega), if_pos (by omega)]
        rw [e1, e2]; rfl
    · rw [if_neg c1]
      dsimp only [Option.bind_some]
      rw [if_neg (by simp)]
      by_cases c2 : a0 < 0
      · have e1 : disk_New_f a0 = some none := by unfold disk_New_f; rw [if_pos c2]
        have e2 : ref15_New_f a0 = some none := by unfold ref15_New_f; rw [if_pos c2]
        rw [e1, e2]; rfl
      · obtain ⟨n, rfl⟩ : ∃ n : Nat, a0 = n := ⟨a0.toNat, by omega⟩
        rw [new_eq (by omega), rnew_eq (by omega)]
        dsimp only [Option.bind_some]
        obtain ⟨x, h1⟩ := plays_b0 (n := n) (by omega) a1 (hlen rfl) g1.2
        rw [h1]; rfl
end Go.Proofs.Ytddfdbpjldcjiaa
