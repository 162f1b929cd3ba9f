/- Stores, plain: the head; so few calls. -/
import Derived.Test.YtpmkpiffbdcflaaStoA
import Derived.Test.YtpmkpiffbdcflaaReads
import Derived.Test.YtpmkpiffbdcflaaGL
import Derived.Test.YtpmkpiffbdcflaaG1
set_option linter.unusedVariables false
set_option linter.unusedSimpArgs false
namespace Go.Proofs.Ytpmkpiffbdcflaa
open Go Go.RowKit
theorem head18_eq : law18_head_f = some true := by decide +kernel
abbrev OP8 : law18_Op := ⟨0, [], [], [], 0, []⟩
theorem good8 {o : law18_Op} (g : good_law18_Op o) : GoodOp o := ⟨g.2.1.2, fun e he => (g.2.2.1.2 e he).2, g.2.2.2.1.2, (wf64 g.2.2.2.2.1).2⟩
theorem great18_in (a : List law18_Op) {k : Nat} (hk : k < a.length) (hkl : (a.getD k OP8).Kept.length ≤ maxLen) (x : Int) : ∃ r, lp (law18_Great_b1 a (k : Int)) (x, 0) = some r := by
  have hm : maxLen ≤ 9223372036854775807 := by decide
  have key : ∃ r, lp (law18_Great_b1 a (k : Int)) (x, 0) = some r ∧ True := by
    refine lp_run (fun j (s : Int × Int) => s.2 = (j : Int)) _ (a.getD k OP8).Kept.length (by omega) rfl ?_ ?_
    · rintro j ⟨u, v⟩ hj hv
      dsimp only at hv
      subst hv
      unfold law18_Great_b1
      dsimp only
      have hj2 : (j : Int) < ((a.getD k OP8).Kept.length : Int) := by omega
      rw [if_pos (by omega), Int.toNat_natCast, if_pos hj2]
      dsimp only [Option.bind_some]
      by_cases c : u < 9000
      · rw [if_pos (decide_eq_true c), if_pos (by omega), if_pos ⟨by omega, hj2⟩, w64n (by omega)]
        exact .inl ⟨_, rfl, rfl⟩
      · rw [if_neg (by simpa using c)]
        exact .inr ⟨_, rfl, trivial⟩
    · rintro ⟨u, v⟩ hv
      dsimp only at hv
      subst hv
      unfold law18_Great_b1
      dsimp only
      rw [if_pos (by omega), Int.toNat_natCast, if_neg (by show ¬ (((a.getD k OP8).Kept.length : Int) < ((a.getD k OP8).Kept.length : Int)); omega)]
      exact ⟨_, rfl, trivial⟩
  obtain ⟨r, h, _⟩ := key
  exact ⟨r, h⟩
theorem great18_eq (a : List law18_Op) (ha : a.length ≤ maxLen) (g : ∀ y ∈ a, good_law18_Op y) : ∃ b, law18_Great_f a = some b ∧ (b = false → a.length ≤ 60) := by
  have hm : maxLen ≤ 9223372036854775807 := by decide
  have key : ∃ r, lp (law18_Great_b0 a) ((a.length : Int), 0) = some r ∧ True := by
    refine lp_run (fun k (s : Int × Int) => s.2 = (k : Int)) _ a.length (by omega) rfl ?_ ?_
    · rintro k ⟨x, y⟩ hk hy
      dsimp only at hy
      subst hy
      unfold law18_Great_b0
      dsimp only
      rw [if_pos (by omega)]
      dsimp only [Option.bind_some]
      by_cases c : x < 9000
      · rw [if_pos (decide_eq_true c), if_pos (by omega), if_pos (by omega), if_pos (by omega), if_pos (by omega)]
        obtain ⟨r, h⟩ := great18_in a hk (g _ (getD_mem hk OP8)).2.2.1.1 (IntKind.i64.wrap ((IntKind.i64.wrap ((IntKind.i64.wrap ((IntKind.i64.wrap (x + (min (((a.getD (k : Int).toNat OP8).State).length : Int) 9000))) + (min (((a.getD (k : Int).toNat OP8).Entry).length : Int) 9000))) + (min (((a.getD (k : Int).toNat OP8).Keep).length : Int) 9000))) + (min (((a.getD (k : Int).toNat OP8).Kept).length : Int) 9000)))
        rw [h]
        dsimp only [Option.bind_some]
        rw [w64n (by omega)]
        exact .inl ⟨_, rfl, rfl⟩
      · rw [if_neg (by simpa using c)]
        exact .inr ⟨_, rfl, trivial⟩
    · rintro ⟨x, y⟩ hy
      dsimp only at hy
      subst hy
      unfold law18_Great_b0
      dsimp only
      rw [if_neg (by omega)]
      exact ⟨_, rfl, trivial⟩
  obtain ⟨r, h1, _⟩ := key
  unfold law18_Great_f
  rw [h1]
  dsimp only [Option.bind_some]
  by_cases c : r ≥ 9000
  · rw [if_pos c]; exact ⟨true, rfl, fun h => (by cases h)⟩
  · rw [if_neg c]
    refine ⟨_, rfl, fun h => ?_⟩
    have := of_decide_eq_false h
    omega
/-- So many wait behind a call. -/
theorem do_pend {n : Nat} {d : disk_Disk} (W : WFd n d) (s : store_Store) (o : law18_Op) : (doT n d s o).2.2.pending.length ≤ d.pending.length + 1100 := by
  unfold doT
  split
  · show (appV n s o.Entry d).2.2.pending.length ≤ _
    unfold appV
    have := (putV_wf W s.from_ (hf n) s.now o.Entry).2
    split
    · dsimp only; omega
    · split <;> dsimp only <;> omega
  · split
    · show (synV s d).2.pending.length ≤ _
      unfold synV
      have := W.sy.2
      split
      · dsimp only; omega
      · omega
    · split
      · show d.pending.length ≤ _
        omega
      · split
        · exact Nat.zero_le _
        · show (begV n s o.State o.Kept d).2.2.pending.length ≤ _
          unfold begV
          have h1 := layV_wf W (othr n s) (hf n) (grt n d + 1) o.State o.Kept
          have h2 := h1.1.sy.2
          have h1 := h1.2
          split
          · dsimp only; omega
          · split
            · dsimp only; omega
            · split
              · dsimp only; omega
              · split
                · exact h1
                · split <;> dsimp only <;> omega
end Go.Proofs.Ytpmkpiffbdcflaa
