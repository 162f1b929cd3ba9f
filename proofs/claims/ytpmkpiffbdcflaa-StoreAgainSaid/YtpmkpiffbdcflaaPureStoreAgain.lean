/- The statement StoreAgain: plain Lean. -/
import Derived.Test.YtpmkpiffbdcflaaStoE
import Derived.Test.YtpmkpiffbdcflaaRegS
import Derived.Test.YtpmkpiffbdcflaaGStoreAgain
set_option linter.unusedVariables false
set_option linter.unusedSimpArgs false
namespace Go.Proofs.Ytpmkpiffbdcflaa
open Go Go.RowKit
theorem cra_cra (d : disk_Disk) (keep : List Bool) (tear : Int) : cra (cra d keep tear) keep tear = cra d keep tear := rfl
theorem pure_StoreAgain (a0 : Int) (a1 : List law18_Op) (a2 : List Bool) (a3 : Int) (g0 : 0 ≤ a0 ∧ a0 < 256) (g1 : a1.length ≤ maxLen ∧ ∀ y ∈ a1, good_law18_Op y) {q2 q3 : Prop} (g2 : q2) (g3 : q3) : law18_StoreAgain_f a0 a1 a2 a3 = some true := by
  unfold law18_StoreAgain_f
  obtain ⟨n, hn⟩ : ∃ n : Nat, a0 = n := ⟨a0.toNat, by omega⟩
  rw [head18_eq]
  dsimp only [Option.bind_some]
  rw [w64 (x := a0) (by omega) (by omega), hn, new_eq (by omega)]
  dsimp only [Option.bind_some]
  obtain ⟨b, hb, hlen⟩ := great18_eq a1 g1.1 g1.2
  rw [hb]
  dsimp only [Option.bind_some]
  cases b with
  | true => rfl
  | false =>
    have hl := hlen rfl
    have hn4 : n ≤ 4096 := by omega
    obtain ⟨e0, I0⟩ := inv_new n [] []
    rw [if_neg (by simp)]
    by_cases c9 : (a2.length : Int) > 900
    · rw [if_pos c9]
    · rw [if_neg c9, open_eq (WFd.new n) hn4, e0]
      dsimp only [Option.bind_some]
      have key : ∃ r, lp (law18_StoreAgain_b0 a1) (⟨RG0, false, 0, false, false⟩, 0, dnew n) = some r ∧ WFd n r ∧ r.pending.length ≤ 100000 := by
        refine lp_all (fun k (t : store_Store × Int × disk_Disk) => t.2.1 = (k : Int) ∧ t.2.2.pending.length ≤ 1100 * k ∧ (∃ m1 m2 ys nst nen, Inv n t.1 t.2.2 m1 m2 ys nst nen)) _ a1.length (by omega) ⟨rfl, Nat.zero_le _, ⟨_, _, _, _, _, I0⟩⟩ ?_ ?_
        · rintro k ⟨s, i, d⟩ hk ⟨hi, hp, ⟨m1, m2, ys, nst, nen, I⟩⟩
          dsimp only at hi hp I
          subst hi
          have go := good8 (g1.2 _ (getD_mem hk OP8))
          have D := do_did hn4 I go
          have hpd := do_pend I.w s (a1.getD k OP8)
          have hdo := I.do hn4 (by omega) go
          obtain ⟨m1', m2', ys', nst', nen', I'⟩ := D.inv
          refine ⟨((doT n d s (a1.getD k OP8)).1, ((k + 1 : Nat) : Int), (doT n d s (a1.getD k OP8)).2.2), ?_, rfl, by dsimp only; omega, ⟨_, _, _, _, _, I'⟩⟩
          unfold law18_StoreAgain_b0
          dsimp only
          rw [if_pos (by omega)]
          dsimp only [Option.bind_some]
          rw [if_pos rfl, if_pos (by omega), Int.toNat_natCast, hdo]
          dsimp only [Option.bind_some]
          rw [w64n (by omega)]
        · rintro ⟨s, i, d⟩ ⟨hi, hp, ⟨m1, m2, ys, nst, nen, I⟩⟩
          dsimp only at hi hp I
          subst hi
          exact ⟨d, by unfold law18_StoreAgain_b0; dsimp only; rw [if_neg (by omega)]; rfl, I.w, by omega⟩
      obtain ⟨d, h1, W, hp⟩ := key
      rw [h1]
      dsimp only [Option.bind_some]
      have W' := W.cra a2 a3
      have hp' : (cra d a2 a3).pending = [] := rfl
      rw [crash_eq W (by omega)]
      dsimp only [Option.bind_some]
      rw [open_eq W' hn4]
      dsimp only [Option.bind_some]
      rw [show disk_Disk_Pending_f (cra d a2 a3) = some 0 from rfl, crash_eq W' (by rw [hp']; exact Nat.zero_le _), cra_cra]
      dsimp only [Option.bind_some]
      rw [open_eq W' hn4]
      dsimp only [Option.bind_some]
      have hgd : GdR (opn n (cra d a2 a3)).now := by
        unfold opn
        split
        · exact good_read W' hn4 _ _
        · split
          · exact good_read W' hn4 _ _
          · exact good0
      have hk := hgd.kl
      have hm := hgd.ml
      generalize opn n (cra d a2 a3) = s at hgd hk hm ⊢
      rw [if_pos rfl, if_pos rfl]
      dsimp only [store_Store_Has_f, store_Store_Gen_f, Option.bind_some]
      rw [if_pos (by simp), if_pos rfl, stateT_eq hgd]
      dsimp only [Option.bind_some]
      rw [if_pos rfl, entries_eq hgd]
      dsimp only [Option.bind_some]
      rw [sameRows_eq _ _ (by rw [List.length_append]; omega)]
      simp
end Go.Proofs.Ytpmkpiffbdcflaa
