/- Stores, plain: any call; the head; so few calls. -/
import Derived.Test.YtpmkpiffbdcflaaStoD
import Derived.Test.YtpmkpiffbdcflaaReads
import Derived.Test.YtpmkpiffbdcflaaGL
import Derived.Test.YtpmkpiffbdcflaaG2
set_option linter.unusedVariables false
set_option linter.unusedSimpArgs false
namespace Go.Proofs.Ytpmkpiffbdcflaa
open Go Go.RowKit
theorem head18_eq : law18_head_f = some true := by decide +kernel
abbrev OP8 : law18_Op := ⟨0, [], [], [], 0, []⟩
theorem good8 {o : law18_Op} (g : good_law18_Op o) : GoodOp o := ⟨g.2.1.2, fun e he => (g.2.2.1.2 e he).2, g.2.2.2.1.2, (wf64 g.2.2.2.2.1).2⟩
theorem great18_in (a : List law18_Op) {k : Nat} (hk : k < a.length) (hkl : (a.getD k OP8).Kept.length ≤ maxLen) (x : Int) : ∃ r, lp (law18_Great_b1 a (k : Int)) (x, 0) = some r := by
  have hm : maxLen ≤ 9223372036854775807 := by decide
  have key : ∃ r, lp (law18_Great_b1 a (k : Int)) (x, 0) = some r ∧ True := by
    refine lp_run (fun j (s : Int × Int) => s.2 = (j : Int)) _ (a.getD k OP8).Kept.length (by omega) rfl ?_ ?_
    · rintro j ⟨u, v⟩ hj hv
      dsimp only at hv
      subst hv
      unfold law18_Great_b1
      dsimp only
      have hj2 : (j : Int) < ((a.getD k OP8).Kept.length : Int) := by omega
      rw [if_pos (by omega), Int.toNat_natCast, if_pos hj2]
      dsimp only [Option.bind_some]
      by_cases c : u < 9000
      · rw [if_pos (decide_eq_true c), if_pos (by omega), if_pos ⟨by omega, hj2⟩, w64n (by omega)]
        exact .inl ⟨_, rfl, rfl⟩
      · rw [if_neg (by simpa using c)]
        exact .inr ⟨_, rfl, trivial⟩
    · rintro ⟨u, v⟩ hv
      dsimp only at hv
      subst hv
      unfold law18_Great_b1
      dsimp only
      rw [if_pos (by omega), Int.toNat_natCast, if_neg (by show ¬ (((a.getD k OP8).Kept.length : Int) < ((a.getD k OP8).Kept.length : Int)); omega)]
      exact ⟨_, rfl, trivial⟩
  obtain ⟨r, h, _⟩ := key
  exact ⟨r, h⟩
theorem great18_eq (a : List law18_Op) (ha : a.length ≤ maxLen) (g : ∀ y ∈ a, good_law18_Op y) : ∃ b, law18_Great_f a = some b ∧ (b = false → a.length ≤ 60) := by
  have hm : maxLen ≤ 9223372036854775807 := by decide
  have key : ∃ r, lp (law18_Great_b0 a) ((a.length : Int), 0) = some r ∧ True := by
    refine lp_run (fun k (s : Int × Int) => s.2 = (k : Int)) _ a.length (by omega) rfl ?_ ?_
    · rintro k ⟨x, y⟩ hk hy
      dsimp only at hy
      subst hy
      unfold law18_Great_b0
      dsimp only
      rw [if_pos (by omega)]
      dsimp only [Option.bind_some]
      by_cases c : x < 9000
      · rw [if_pos (decide_eq_true c), if_pos (by omega), if_pos (by omega), if_pos (by omega), if_pos (by omega)]
        obtain ⟨r, h⟩ := great18_in a hk (g _ (getD_mem hk OP8)).2.2.1.1 (IntKind.i64.wrap ((IntKind.i64.wrap ((IntKind.i64.wrap ((IntKind.i64.wrap (x + (min (((a.getD (k : Int).toNat OP8).State).length : Int) 9000))) + (min (((a.getD (k : Int).toNat OP8).Entry).length : Int) 9000))) + (min (((a.getD (k : Int).toNat OP8).Keep).length : Int) 9000))) + (min (((a.getD (k : Int).toNat OP8).Kept).length : Int) 9000)))
        rw [h]
        dsimp only [Option.bind_some]
        rw [w64n (by omega)]
        exact .inl ⟨_, rfl, rfl⟩
      · rw [if_neg (by simpa using c)]
        exact .inr ⟨_, rfl, trivial⟩
    · rintro ⟨x, y⟩ hy
      dsimp only at hy
      subst hy
      unfold law18_Great_b0
      dsimp only
      rw [if_neg (by omega)]
      exact ⟨_, rfl, trivial⟩
  obtain ⟨r, h1, _⟩ := key
  unfold law18_Great_f
  rw [h1]
  dsimp only [Option.bind_some]
  by_cases c : r ≥ 9000
  · rw [if_pos c]; exact ⟨true, rfl, fun h => (by cases h)⟩
  · rw [if_neg c]
    refine ⟨_, rfl, fun h => ?_⟩
    have := of_decide_eq_false h
    omega
/-- So many wait behind a call. -/
theorem do_pend {n : Nat} {d : disk_Disk} (W : WFd n d) (s : store_Store) (o : law18_Op) : (doT n d s o).2.2.pending.length ≤ d.pending.length + 1100 := by
  unfold doT
  split
  · show (appV n s o.Entry d).2.2.pending.length ≤ _
    unfold appV
    have := (putV_wf W s.from_ (hf n) s.now o.Entry).2
    split
    · dsimp only; omega
    · split <;> dsimp only <;> omega
  · split
    · show (synV s d).2.pending.length ≤ _
      unfold synV
      have := W.sy.2
      split
      · dsimp only; omega
      · omega
    · split
      · show d.pending.length ≤ _
        omega
      · split
        · exact Nat.zero_le _
        · show (begV n s o.State o.Kept d).2.2.pending.length ≤ _
          unfold begV
          have h1 := layV_wf W (othr n s) (hf n) (grt n d + 1) o.State o.Kept
          have h2 := h1.1.sy.2
          have h1 := h1.2
          split
          · dsimp only; omega
          · split
            · dsimp only; omega
            · split
              · dsimp only; omega
              · split
                · exact h1
                · split <;> dsimp only <;> omega
def Begins (o : law18_Op) : Prop := o.What < 2 ∨ o.What > 7
instance (o : law18_Op) : Decidable (Begins o) := inferInstanceAs (Decidable (_ ∨ _))
/-- What a call may do. -/
inductive Did (n : Nat) (s : store_Store) (m1 m2 ys : List (List Int)) (nst : List Int) (nen : List (List Int)) (o : law18_Op) (s' : store_Store) (c : Int) (d' : disk_Disk) : Prop
  | fail (h : 2 ≤ o.What ∧ o.What ≤ 5) (e : s' = s) (hc : c ≠ 0) (I : Inv n s d' m1 m2 ys nst nen) (hh : (s.broken = true ∨ s.begun = false) → c = 43)
  | app (h : 2 ≤ o.What ∧ o.What ≤ 4) (e : s' = addM s o.Entry) (hc : c = 0) (hb : s.broken = false) (hg : s.begun = true) (I : Inv n s' d' m1 (m2 ++ [o.Entry]) ys nst nen)
  | syn (h : o.What = 5) (e : s' = s) (hc : c = 0) (hb : s.broken = false) (hg : s.begun = true) (I : Inv n s d' (m1 ++ m2) [] [] nst nen)
  | fus (h : o.What = 6) (e : s' = s) (hc : c = 0) (I : Inv n s d' m1 m2 ys nst nen)
  | crash (h : o.What = 7) (hc : c = 0) (m1' : List (List Int)) (I : Inv n s' d' m1' [] [] nst nen) (hb : s'.broken = false) (hg : s'.begun = false)
      (hw : (s.has_ = true ∧ s'.has_ = true ∧ s'.now.Gen = s.now.Gen ∧ s'.now.State = s.now.State ∧ s'.now.Kept = s.now.Kept ∧ ∃ j, j ≤ m2.length ∧ s'.now.More = m1 ++ m2.take j) ∨
       (s.broken = true ∧ s'.has_ = true ∧ (s.has_ = true → s.now.Gen < s'.now.Gen) ∧ s'.now.State = nst ∧ s'.now.Kept = nen ∧ s'.now.More = []) ∨
       (s.has_ = false ∧ s'.has_ = false ∧ s'.now = RG0))
  | no (h : Begins o) (e : s' = s) (I : Inv n s d' m1 m2 ys nst nen) (hc : (s.broken = true ∧ c = 43) ∨ (s.broken = false ∧ c = 1))
  | brok (h : Begins o) (hb : s.broken = false) (e : s' = brk s) (hc : c = 5 ∨ c = 42) (ys' : List (List Int)) (I : Inv n s' d' m1 m2 ys' o.State o.Kept)
  | beg (h : Begins o) (hb : s.broken = false) (g : Int) (e : s' = ⟨⟨g, o.State, o.Kept, []⟩, true, othr n s, true, false⟩) (hc : c = 0) (hg : s.has_ = true → s.now.Gen < g) (h1 : 1 ≤ g) (I : Inv n s' d' [] [] [] nst nen)
theorem Inv.re {n : Nat} {s : store_Store} {d : disk_Disk} {m1 m2 : List (List Int)} {a : List Int} {b : List (List Int)} (I : Inv n s d m1 m2 [] a b) (a' : List Int) (b' : List (List Int)) : Inv n s d m1 m2 [] a' b' := ⟨I.w, I.g, I.fr, I.more, I.p, I.cur, I.no, I.oth, .inl rfl⟩
theorem do_did {n : Nat} (hn : n ≤ 4096) {s : store_Store} {d : disk_Disk} {m1 m2 ys : List (List Int)} {nst : List Int} {nen : List (List Int)} (I : Inv n s d m1 m2 ys nst nen) {o : law18_Op} (go : GoodOp o) :
    Did n s m1 m2 ys nst nen o (doT n d s o).1 (doT n d s o).2.1 (doT n d s o).2.2 := by
  unfold doT
  by_cases c1 : o.What = 2 ∨ o.What = 3 ∨ o.What = 4
  · rw [if_pos c1]
    rcases app_step hn I go.e with ⟨c, e, hc, hh, _⟩ | ⟨d', e, hb, hg, _, I'⟩
    · rw [e]; exact .fail (by omega) rfl hc I hh
    · rw [e]; exact .app (by omega) rfl rfl hb hg I'
  · rw [if_neg c1]
    by_cases c5 : o.What = 5
    · rw [if_pos c5]
      rcases syn_step hn I with ⟨c, e, hc, hh, _⟩ | ⟨d', e, hb, hg, I'⟩
      · rw [e]; exact .fail (by omega) rfl hc I hh
      · rw [e]; exact .syn c5 rfl rfl hb hg I'
    · rw [if_neg c5]
      by_cases c6 : o.What = 6
      · rw [if_pos c6]; exact .fus c6 rfl rfl (fus_step I go.n)
      · rw [if_neg c6]
        by_cases c7 : o.What = 7
        · rw [if_pos c7]
          obtain ⟨s', m1', e, I', hb, hg, hw⟩ := crash_step hn I o.Keep o.N nst nen
          rw [e]
          exact .crash c7 rfl m1' I' hb hg hw
        · rw [if_neg c7]
          have hB : Begins o := by unfold Begins; omega
          cases hb : s.broken with
          | true =>
            have e : begV n s o.State o.Kept d = (43, s, d) := by unfold begV; rw [if_pos hb]
            rw [e]
            exact .no hB rfl I (.inl ⟨hb, rfl⟩)
          | false =>
            rcases beg_step hn I hb go.s go.k with e | ⟨c, d', e, hc, ys', I'⟩ | ⟨g, d', e, hg, I'⟩
            · rw [e]; exact .no hB rfl I (.inr ⟨hb, rfl⟩)
            · rw [e]; exact .brok hB hb rfl hc ys' I'
            · rw [e]
              refine .beg hB hb g rfl rfl hg ?_ (I'.re _ _)
              rcases I'.cur rfl with ⟨_, L, _⟩ | ⟨h, _⟩
              · exact L.g.1
              · cases h
theorem Did.inv {n : Nat} {s s' : store_Store} {d' : disk_Disk} {m1 m2 ys : List (List Int)} {nst : List Int} {nen : List (List Int)} {o : law18_Op} {c : Int} (D : Did n s m1 m2 ys nst nen o s' c d') : ∃ m1 m2 ys nst nen, Inv n s' d' m1 m2 ys nst nen := by
  cases D with
  | fail h e hc I hh => subst e; exact ⟨_, _, _, _, _, I⟩
  | app h e hc hb hg I => exact ⟨_, _, _, _, _, I⟩
  | syn h e hc hb hg I => subst e; exact ⟨_, _, _, _, _, I⟩
  | fus h e hc I => subst e; exact ⟨_, _, _, _, _, I⟩
  | crash h hc m1' I => exact ⟨_, _, _, _, _, I⟩
  | no h e I hc => subst e; exact ⟨_, _, _, _, _, I⟩
  | brok h hb e hc ys' I => exact ⟨_, _, _, _, _, I⟩
  | beg h hb g e hc hg h1 I => exact ⟨_, _, _, _, _, I⟩
theorem Inv.from_le {n : Nat} (hn : n ≤ 4096) {s : store_Store} {d : disk_Disk} {m1 m2 ys : List (List Int)} {nst : List Int} {nen : List (List Int)} (I : Inv n s d m1 m2 ys nst nen) : 0 ≤ s.from_ ∧ s.from_ ≤ 2048 := by
  have := hf_le hn
  rcases I.fr with h | h <;> omega
theorem Inv.do {n : Nat} (hn : n ≤ 4096) {s : store_Store} {d : disk_Disk} {m1 m2 ys : List (List Int)} {nst : List Int} {nen : List (List Int)} (I : Inv n s d m1 m2 ys nst nen) (hp : d.pending.length ≤ 400000) {o : law18_Op} (go : GoodOp o) : law18_do_f d s o = some (doT n d s o) := doT_eq I.w hn hp I.g (I.from_le hn) go
end Go.Proofs.Ytpmkpiffbdcflaa
