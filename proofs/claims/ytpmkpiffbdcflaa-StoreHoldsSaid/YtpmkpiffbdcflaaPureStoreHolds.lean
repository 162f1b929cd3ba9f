/- The statement StoreHolds: plain Lean. -/
import Derived.Test.YtpmkpiffbdcflaaStoE
import Derived.Test.YtpmkpiffbdcflaaRegS
import Derived.Test.YtpmkpiffbdcflaaGStoreHolds
set_option linter.unusedVariables false
set_option linter.unusedSimpArgs false
namespace Go.Proofs.Ytpmkpiffbdcflaa
open Go Go.RowKit
/-- What the statement asks of one call. -/
structure HoldsOne (s s' : store_Store) (o : law18_Op) (c : Int) : Prop where
  a : o.What ≠ 6 → o.What ≠ 7 → (s.broken = true ∨ (s.begun = false ∧ ¬ Begins o)) → c = 43
  b : c ≠ 0 → s'.now = s.now
  cc : Begins o → c = 0 → s'.now.State = o.State ∧ s'.now.Kept ++ s'.now.More = o.Kept ∧ s'.has_ = true
  d : 2 ≤ o.What ∧ o.What ≤ 4 → c = 0 → s'.now.Kept ++ s'.now.More = (s.now.Kept ++ s.now.More) ++ [o.Entry]
  e : o.What ≠ 7 → (s'.begun = true ↔ s.begun = true ∨ (Begins o ∧ c = 0))
  f : o.What ≠ 7 → (s'.broken = true ↔ s.broken = true ∨ (Begins o ∧ c ≠ 0 ∧ c ≠ 1))
  g : o.What = 7 → s'.begun = false ∧ s'.broken = false
theorem Did.holds {n : Nat} {s s' : store_Store} {d' : disk_Disk} {m1 m2 ys : List (List Int)} {nst : List Int} {nen : List (List Int)} {o : law18_Op} {c : Int} (D : Did n s m1 m2 ys nst nen o s' c d') : HoldsOne s s' o c := by
  cases D with
  | fail h e hc I hh =>
    subst e
    refine ⟨fun _ _ h1 => hh (by rcases h1 with h1 | h1; exact .inl h1; exact .inr h1.1), fun _ => rfl, fun h1 => ?_, fun _ h1 => absurd h1 hc, fun _ => ⟨.inl, fun h1 => h1.elim id fun h1 => ?_⟩, fun _ => ⟨.inl, fun h1 => h1.elim id fun h1 => ?_⟩, fun h1 => by omega⟩
    · unfold Begins at h1; omega
    · have := h1.1; unfold Begins at this; omega
    · have := h1.1; unfold Begins at this; omega
  | app h e hc hb hg I =>
    subst e
    refine ⟨fun _ _ h1 => ?_, fun h1 => absurd hc h1, fun h1 => ?_, fun _ _ => ?_, fun _ => ⟨.inl, fun h1 => h1.elim id fun h1 => ?_⟩, fun _ => ⟨.inl, fun h1 => h1.elim id fun h1 => ?_⟩, fun h1 => by omega⟩
    · rcases h1 with h1 | h1
      · rw [hb] at h1; cases h1
      · rw [hg] at h1; cases h1.1
    · unfold Begins at h1; omega
    · show s.now.Kept ++ (s.now.More ++ [o.Entry]) = _
      rw [List.append_assoc]
    · have := h1.1; unfold Begins at this; omega
    · have := h1.1; unfold Begins at this; omega
  | syn h e hc hb hg I =>
    subst e
    refine ⟨fun _ _ h1 => ?_, fun h1 => absurd hc h1, fun h1 => ?_, fun h1 => by omega, fun _ => ⟨.inl, fun h1 => h1.elim id fun h1 => ?_⟩, fun _ => ⟨.inl, fun h1 => h1.elim id fun h1 => ?_⟩, fun h1 => by omega⟩
    · rcases h1 with h1 | h1
      · rw [hb] at h1; cases h1
      · rw [hg] at h1; cases h1.1
    · unfold Begins at h1; omega
    · have := h1.1; unfold Begins at this; omega
    · have := h1.1; unfold Begins at this; omega
  | fus h e hc I =>
    subst e
    refine ⟨fun h1 => absurd h h1, fun h1 => absurd hc h1, fun h1 => ?_, fun h1 => by omega, fun _ => ⟨.inl, fun h1 => h1.elim id fun h1 => ?_⟩, fun _ => ⟨.inl, fun h1 => h1.elim id fun h1 => ?_⟩, fun h1 => by omega⟩
    · unfold Begins at h1; omega
    · have := h1.1; unfold Begins at this; omega
    · have := h1.1; unfold Begins at this; omega
  | crash h hc m1' I hb hg hw =>
    exact ⟨fun _ h1 => absurd h h1, fun h1 => absurd hc h1, fun h1 => by unfold Begins at h1; omega, fun h1 => by omega, fun h1 => absurd h h1, fun h1 => absurd h h1, fun _ => ⟨hg, hb⟩⟩
  | no h e I hc =>
    subst e
    have h0 : o.What < 2 ∨ o.What > 7 := h
    refine ⟨fun _ _ h1 => ?_, fun _ => rfl, fun _ h1 => by omega, fun h1 => by omega, fun _ => ⟨.inl, fun h1 => h1.elim id fun h1 => by omega⟩, fun _ => ⟨.inl, fun h1 => h1.elim id fun h1 => ?_⟩, fun h1 => by omega⟩
    · rcases h1 with h1 | h1
      · rcases hc with hc | hc
        · exact hc.2
        · rw [h1] at hc; cases hc.1
      · exact absurd h h1.2
    · rcases hc with hc | hc
      · exact hc.1
      · omega
  | brok h hb e hc ys' I =>
    subst e
    have h0 : o.What < 2 ∨ o.What > 7 := h
    refine ⟨fun _ _ h1 => ?_, fun _ => rfl, fun _ h1 => by omega, fun h1 => by omega, fun _ => ⟨.inl, fun h1 => h1.elim id fun h1 => by omega⟩, fun _ => ⟨fun _ => .inr ⟨h, by omega, by omega⟩, fun _ => rfl⟩, fun h1 => by omega⟩
    rcases h1 with h1 | h1
    · rw [hb] at h1; cases h1
    · exact absurd h h1.2
  | beg h hb g e hc hg h1 I =>
    subst e
    have h0 : o.What < 2 ∨ o.What > 7 := h
    refine ⟨fun _ _ h1 => ?_, fun h1 => absurd hc h1, fun _ _ => ⟨rfl, List.append_nil _, rfl⟩, fun h1 => by omega, fun _ => ⟨fun _ => .inr ⟨h, hc⟩, fun _ => rfl⟩, fun _ => ⟨fun h1 => (by cases h1), fun h1 => ?_⟩, fun h1 => by omega⟩
    · rcases h1 with h1 | h1
      · rw [hb] at h1; cases h1
      · exact absurd h h1.2
    · rcases h1 with h1 | h1
      · rw [hb] at h1; cases h1
      · exact absurd hc h1.2.1
theorem beg_dec (o : law18_Op) : ((if o.What < 2 then some true else some ((decide (o.What > 7)))) : Option (Bool)) = some (decide (Begins o)) := by
  have hB : Begins o ↔ o.What < 2 ∨ o.What > 7 := Iff.rfl
  by_cases c : o.What < 2
  · rw [if_pos c, decide_eq_true (hB.2 (.inl c))]
  · rw [if_neg c]; congr 1; exact decide_eq_decide.2 ⟨fun h => hB.2 (.inr h), fun h => (hB.1 h).resolve_left c⟩
theorem holds_step {n : Nat} (hn : n ≤ 4096) {a1 : List law18_Op} (hl : a1.length ≤ 60) {k : Nat} (hk : k < a1.length) {s s' : store_Store} {c : Int} {d d' : disk_Disk} (hg : GdR s.now) (hg' : GdR s'.now) (hdo : law18_do_f d s (a1.getD k OP8) = some (s', c, d')) (H : HoldsOne s s' (a1.getD k OP8) c) :
    law18_StoreHolds_b0 a1 (s, s.begun, s.broken, (k : Int), d) = some (.inl (s', s'.begun, s'.broken, ((k + 1 : Nat) : Int), d')) := by
  have hk1 := hg.kl
  have hm1 := hg.ml
  have hk2 := hg'.kl
  have hm2 := hg'.ml
  unfold law18_StoreHolds_b0
  dsimp only
  rw [if_pos (by omega)]
  dsimp only [Option.bind_some]
  rw [if_pos rfl, if_pos (by omega), Int.toNat_natCast, entries_eq hg]
  dsimp only [Option.bind_some]
  rw [stateT_eq hg]
  dsimp only [Option.bind_some, store_Store_Gen_f, store_Store_Has_f]
  rw [hdo]
  dsimp only [Option.bind_some]
  rw [stateT_eq hg', entries_eq hg', w64n (by omega)]
  have hB := beg_dec (a1.getD k OP8)
  generalize hO : a1.getD k OP8 = o at H hB
  by_cases c7 : o.What = 7
  · rw [if_pos c7, (H.g c7).1, (H.g c7).2]
  · rw [if_neg c7, hB]
    dsimp only [Option.bind_some]
    -- the first check
    have e1 : ∃ x60 x61, (((if o.What ≠ 6 then (if s.broken = true then some (s.begun, true, decide (Begins o), decide (c ≠ 43)) else (if s.begun = true then some (true, false, decide (Begins o), false) else (if decide (Begins o) = true then some (false, false, true, false) else some (false, false, false, decide (c ≠ 43))))) else some (s.begun, s.broken, decide (Begins o), false)) : Option (Bool × Bool × Bool × Bool))) = some (s.begun, s.broken, decide (Begins o), false) ∧ x60 = s.begun ∧ x61 = s.broken := by
      refine ⟨_, _, ?_, rfl, rfl⟩
      by_cases c6 : o.What ≠ 6
      · rw [if_pos c6]
        cases hb : s.broken with
        | true =>
          rw [if_pos rfl, H.a c6 c7 (.inl hb)]
          simp
        | false =>
          rw [if_neg (by simp)]
          cases hbg : s.begun with
          | true => rw [if_pos rfl]
          | false =>
            rw [if_neg (by simp)]
            by_cases cB : Begins o
            · rw [if_pos (decide_eq_true cB), decide_eq_true cB]
            · rw [if_neg (by simpa using cB), H.a c6 c7 (.inr ⟨hbg, cB⟩), decide_eq_false cB]
              simp
      · rw [if_neg c6]
    obtain ⟨_, _, e1, _, _⟩ := e1
    rw [e1]
    dsimp only [Option.bind_some]
    rw [if_neg (by simp)]
    -- the second
    have e2 : (((if c ≠ 0 then (if s'.now.Gen ≠ s.now.Gen then some true else (if s'.now.State ≠ s.now.State then some true else ((ref17_SameRows_f (s'.now.Kept ++ s'.now.More) (s.now.Kept ++ s.now.More)).bind fun x86 => some (!x86)))) else some false) : Option (Bool))) = some false := by
      by_cases c0 : c ≠ 0
      · rw [if_pos c0, H.b c0, if_neg (by simp), if_neg (by simp), sameRows_eq _ _ (by rw [List.length_append]; omega), decide_eq_true rfl]
        rfl
      · rw [if_neg c0]
    rw [e2]
    dsimp only [Option.bind_some]
    rw [if_neg (by simp)]
    -- the third
    have e3 : ∃ x : Unit, (((if decide (Begins o) = true then (if c = 0 then (if s'.now.State ≠ o.State then some (true, true) else ((ref17_SameRows_f (s'.now.Kept ++ s'.now.More) o.Kept).bind fun x105 => (if x105 = true then some (true, !s'.has_) else some (true, true)))) else some (true, false)) else some (false, false)) : Option (Bool × Bool))) = some (decide (Begins o), false) := by
      refine ⟨(), ?_⟩
      by_cases cB : Begins o
      · rw [if_pos (decide_eq_true cB), decide_eq_true cB]
        by_cases c0 : c = 0
        · obtain ⟨h1, h2, h3⟩ := H.cc cB c0
          rw [if_pos c0, h1, if_neg (by simp), h2, sameRows_eq _ _ (by rw [← h2, List.length_append]; omega), decide_eq_true rfl, h3]
          rfl
        · rw [if_neg c0]
      · rw [if_neg (by simpa using cB), decide_eq_false cB]
    obtain ⟨_, e3⟩ := e3
    rw [e3]
    dsimp only [Option.bind_some]
    rw [if_neg (by simp)]
    -- the fourth
    have e4 : (((if o.What ≥ 2 then (if o.What ≤ 4 then (if c = 0 then (if (0 + (s.now.Kept ++ s.now.More).length) * 24 ≤ 140737488355328 then (if ((s.now.Kept ++ s.now.More).length + 1) * 24 ≤ 140737488355328 then ((ref17_SameRows_f (s'.now.Kept ++ s'.now.More) ((s.now.Kept ++ s.now.More) ++ ([o.Entry]))).bind fun x128 => some (!x128)) else none) else none) else some false) else some false) else some false) : Option (Bool))) = some false := by
      by_cases h2 : o.What ≥ 2
      · rw [if_pos h2]
        by_cases h4 : o.What ≤ 4
        · rw [if_pos h4]
          by_cases c0 : c = 0
          · rw [if_pos c0, if_pos (by rw [List.length_append]; omega), if_pos (by rw [List.length_append]; omega), H.d ⟨h2, h4⟩ c0, sameRows_eq _ _ (by simp only [List.length_append, List.length_singleton]; omega), decide_eq_true rfl]
            rfl
          · rw [if_neg c0]
        · rw [if_neg h4]
      · rw [if_neg h2]
    rw [e4]
    dsimp only [Option.bind_some]
    rw [if_neg (by simp)]
    -- what is known behind
    have e5 : ((if s.begun = true then some (true, decide (Begins o)) else (if decide (Begins o) = true then some (decide (c = 0), true) else some (false, false))) : Option (Bool × Bool)) = some (s'.begun, decide (Begins o)) := by
      have he := H.e c7
      cases hbg : s.begun with
      | true => rw [if_pos rfl, he.2 (.inl hbg)]
      | false =>
        rw [if_neg (by simp)]
        by_cases cB : Begins o
        · rw [if_pos (decide_eq_true cB), decide_eq_true cB]
          by_cases c0 : c = 0
          · rw [decide_eq_true c0, he.2 (.inr ⟨cB, c0⟩)]
          · rw [decide_eq_false c0]
            cases hb' : s'.begun with
            | false => rfl
            | true =>
              rcases he.1 hb' with h | h
              · rw [hbg] at h; cases h
              · exact absurd h.2 c0
        · rw [if_neg (by simpa using cB), decide_eq_false cB]
          cases hb' : s'.begun with
          | false => rfl
          | true =>
            rcases he.1 hb' with h | h
            · rw [hbg] at h; cases h
            · exact absurd h.1 cB
    rw [e5]
    dsimp only [Option.bind_some]
    have hf := H.f c7
    cases hb : s.broken with
    | true => rw [if_pos rfl, hf.2 (.inl hb)]
    | false =>
      rw [if_neg (by simp)]
      by_cases cB : Begins o
      · rw [if_pos (decide_eq_true cB)]
        by_cases c0 : c ≠ 0
        · rw [if_pos c0]
          by_cases c1 : c ≠ 1
          · rw [decide_eq_true c1, hf.2 (.inr ⟨cB, c0, c1⟩)]
          · rw [decide_eq_false c1]
            cases hb' : s'.broken with
            | false => rfl
            | true =>
              rcases hf.1 hb' with h | h
              · rw [hb] at h; cases h
              · exact absurd h.2.2 c1
        · rw [if_neg c0]
          cases hb' : s'.broken with
          | false => rfl
          | true =>
            rcases hf.1 hb' with h | h
            · rw [hb] at h; cases h
            · exact absurd h.2.1 c0
      · rw [if_neg (by simpa using cB)]
        cases hb' : s'.broken with
        | false => rfl
        | true =>
          rcases hf.1 hb' with h | h
          · rw [hb] at h; cases h
          · exact absurd h.1 cB
theorem pure_StoreHolds (a0 : Int) (a1 : List law18_Op) (g0 : 0 ≤ a0 ∧ a0 < 256) (g1 : a1.length ≤ maxLen ∧ ∀ y ∈ a1, good_law18_Op y) : law18_StoreHolds_f a0 a1 = some true := by
  unfold law18_StoreHolds_f
  obtain ⟨n, hn⟩ : ∃ n : Nat, a0 = n := ⟨a0.toNat, by omega⟩
  rw [head18_eq]
  dsimp only [Option.bind_some]
  rw [w64 (x := a0) (by omega) (by omega), hn, new_eq (by omega)]
  dsimp only [Option.bind_some]
  obtain ⟨b, hb, hlen⟩ := great18_eq a1 g1.1 g1.2
  rw [hb]
  dsimp only [Option.bind_some]
  cases b with
  | true => rfl
  | false =>
    have hl := hlen rfl
    have hn4 : n ≤ 4096 := by omega
    obtain ⟨e0, I0⟩ := inv_new n [] []
    rw [if_neg (by simp), open_eq (WFd.new n) hn4, e0]
    dsimp only [Option.bind_some]
    have key : ∃ r, lp (law18_StoreHolds_b0 a1) (⟨RG0, false, 0, false, false⟩, false, false, 0, dnew n) = some r ∧ ∃ x, r = .inl x := by
      refine lp_all (fun k (t : store_Store × Bool × Bool × Int × disk_Disk) => t.2.2.2.1 = (k : Int) ∧ t.2.2.2.2.pending.length ≤ 1100 * k ∧ (∃ m1 m2 ys nst nen, Inv n t.1 t.2.2.2.2 m1 m2 ys nst nen) ∧ t.2.1 = t.1.begun ∧ t.2.2.1 = t.1.broken) _ a1.length (by omega) ⟨rfl, Nat.zero_le _, ⟨_, _, _, _, _, I0⟩, rfl, rfl⟩ ?_ ?_
      · rintro k ⟨s, bg, br, i, d⟩ hk ⟨hi, hp, ⟨m1, m2, ys, nst, nen, I⟩, h1, h2⟩
        dsimp only at hi hp I h1 h2
        subst hi h1 h2
        have go := good8 (g1.2 _ (getD_mem hk OP8))
        have D := do_did hn4 I go
        have hpd := do_pend I.w s (a1.getD k OP8)
        have hdo := I.do hn4 (by omega) go
        obtain ⟨m1', m2', ys', nst', nen', I'⟩ := D.inv
        generalize doT n d s (a1.getD k OP8) = t at D hpd hdo I'
        obtain ⟨s', c, d'⟩ := t
        dsimp only at D I' hpd
        exact ⟨_, holds_step hn4 hl hk I.g I'.g hdo D.holds, rfl, by dsimp only; omega, ⟨_, _, _, _, _, I'⟩, rfl, rfl⟩
      · rintro ⟨s, bg, br, i, d⟩ ⟨hi, _⟩
        dsimp only at hi
        subst hi
        exact ⟨_, by unfold law18_StoreHolds_b0; dsimp only; rw [if_neg (by omega)]; rfl, _, rfl⟩
    obtain ⟨r, h1, x, rfl⟩ := key
    rw [h1]; rfl
end Go.Proofs.Ytpmkpiffbdcflaa
