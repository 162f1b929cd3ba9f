/- The plain disk beside the disk: Sync. -/
import Derived.Test.YtpmkpiffbdcflaaDiskR
import Derived.Test.YtpmkpiffbdcflaaGR0
set_option linter.unusedVariables false
set_option linter.unusedSimpArgs false
namespace Go.Proofs.Ytpmkpiffbdcflaa
open Go Go.RowKit
theorem rsync_eq {n : Nat} {d : disk_Disk} {r : ref15_Disk} (R : Rf n d r) (W : WFd n d) (hm : d.pending.length ≤ 1000000) : ∃ r', ref15_Disk_Sync_f r = some ((sy d).1, r') ∧ Rf n (sy d).2 r' := by
  unfold ref15_Disk_Sync_f
  rw [call_eq, R.f]
  unfold sy
  by_cases c1 : d.fuse = 0
  · rw [if_pos c1, if_pos c1]
    exact ⟨r, rfl, R⟩
  · rw [if_neg c1, if_neg c1]
    dsimp only [Option.bind_some]
    rw [if_pos rfl]
    have hf := lowR_f R W c1
    have key : ∃ q, lp ref15_Disk_Sync_b0 (0, lowR r) = some q ∧ RS n (d.pending.foldl ap (d.sectors, d.torn)) q.L q.Torn ∧ q.Fused = (lower d).fuse := by
      refine lp_all (fun k (s : Int × ref15_Disk) => s.1 = (k : Int) ∧ s.2.P = d.pending.map toR ∧ s.2.Fused = (lower d).fuse ∧ ∃ S : Sec, WFs n S ∧ RS n S s.2.L s.2.Torn ∧ (d.pending.drop k).foldl ap S = d.pending.foldl ap (d.sectors, d.torn)) _ d.pending.length (by omega) ⟨rfl, R.p, hf, _, ⟨W.len, W.nd⟩, R.s, rfl⟩ ?_ ?_
      · rintro k ⟨x, q⟩ hk ⟨hx, hp, hfu, S, Ws, Rs, hS⟩
        dsimp only at hx hp hfu Rs
        subst hx
        have ha := W.at_ _ (getD_mem hk ⟨0, Arr.zero 64⟩)
        refine ⟨(((k + 1 : Nat) : Int), (⟨q.L.set (d.pending.getD k ⟨0, Arr.zero 64⟩).at_.toNat (d.pending.getD k ⟨0, Arr.zero 64⟩).b.l, q.Torn.set (d.pending.getD k ⟨0, Arr.zero 64⟩).at_.toNat false, q.P, q.Fused⟩ : ref15_Disk)), ?_, rfl, ?_, ?_, _, Ws.ap (d.pending.getD k ⟨0, Arr.zero 64⟩), Rs.ap Ws ha.1, ?_⟩
        rotate_left
        · exact hp
        · exact hfu
        · rw [drop_get hk ⟨0, Arr.zero 64⟩, List.foldl_cons] at hS
          exact hS
        · unfold ref15_Disk_Sync_b0
          dsimp only
          rw [if_pos (by rw [hp, List.length_map]; omega), if_pos (by rw [hp, List.length_map]; omega), Int.toNat_natCast, hp, getD_map toR hk ⟨0, Arr.zero 64⟩, laid_eq Rs Ws ha]
          dsimp only [Option.bind_some]
          rw [w64n (by omega), ← hp]
      · rintro ⟨x, q⟩ ⟨hx, hp, hfu, S, Ws, Rs, hS⟩
        dsimp only at hx hp hfu Rs
        subst hx
        refine ⟨q, ?_, ?_, hfu⟩
        · unfold ref15_Disk_Sync_b0
          dsimp only
          rw [if_neg (by rw [hp, List.length_map]; omega)]
        · simp at hS
          rw [← hS]; exact Rs
    obtain ⟨q, h1, h2, h3⟩ := key
    rw [h1]
    exact ⟨_, rfl, h2, rfl, h3⟩
end Go.Proofs.Ytpmkpiffbdcflaa
