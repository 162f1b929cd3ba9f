/- The statement StoreGens: plain Lean. -/
import Derived.Test.YtpmkpiffbdcflaaStoE
import Derived.Test.YtpmkpiffbdcflaaGStoreGens
set_option linter.unusedVariables false
set_option linter.unusedSimpArgs false
namespace Go.Proofs.Ytpmkpiffbdcflaa
open Go Go.RowKit
theorem Did.gens {n : Nat} {s s' : store_Store} {d' : disk_Disk} {m1 m2 ys : List (List Int)} {nst : List Int} {nen : List (List Int)} {o : law18_Op} {c last : Int} (D : Did n s m1 m2 ys nst nen o s' c d') (h0 : 0 ≤ last) (hl : last = 0 ∨ (s.has_ = true ∧ last ≤ s.now.Gen)) :
    (Begins o ∧ c = 0 ∧ last < s'.now.Gen ∧ s'.has_ = true) ∨ (¬ (Begins o ∧ c = 0) ∧ (last = 0 ∨ (s'.has_ = true ∧ last ≤ s'.now.Gen))) := by
  unfold Begins
  cases D with
  | fail h e hc I hh => subst e; exact .inr ⟨by omega, hl⟩
  | app h e hc hb hg I => subst e; exact .inr ⟨by omega, hl⟩
  | syn h e hc hb hg I => subst e; exact .inr ⟨by omega, hl⟩
  | fus h e hc I => subst e; exact .inr ⟨by omega, hl⟩
  | crash h hc m1' I hb hg hw =>
    refine .inr ⟨by omega, ?_⟩
    rcases hl with hl | ⟨h1, h2⟩
    · exact .inl hl
    · rcases hw with ⟨_, h3, h4, _⟩ | ⟨_, h3, h4, _⟩ | ⟨h3, _⟩
      · exact .inr ⟨h3, by omega⟩
      · have := h4 h1
        exact .inr ⟨h3, by omega⟩
      · rw [h1] at h3; cases h3
  | no h e I hc => subst e; exact .inr ⟨by omega, hl⟩
  | brok h hb e hc ys' I => subst e; exact .inr ⟨by omega, hl⟩
  | beg h hb g e hc hg h1 I =>
    refine .inl ⟨h, hc, ?_, by rw [e]⟩
    rw [e]
    show last < g
    rcases hl with hl | ⟨h3, h4⟩
    · omega
    · have := hg h3; omega
theorem pure_StoreGens (a0 : Int) (a1 : List law18_Op) (g0 : 0 ≤ a0 ∧ a0 < 256) (g1 : a1.length ≤ maxLen ∧ ∀ y ∈ a1, good_law18_Op y) : law18_StoreGens_f a0 a1 = some true := by
  unfold law18_StoreGens_f
  obtain ⟨n, hn⟩ : ∃ n : Nat, a0 = n := ⟨a0.toNat, by omega⟩
  rw [head18_eq]
  dsimp only [Option.bind_some]
  rw [w64 (x := a0) (by omega) (by omega), hn, new_eq (by omega)]
  dsimp only [Option.bind_some]
  obtain ⟨b, hb, hlen⟩ := great18_eq a1 g1.1 g1.2
  rw [hb]
  dsimp only [Option.bind_some]
  cases b with
  | true => rfl
  | false =>
    have hl := hlen rfl
    have hn4 : n ≤ 4096 := by omega
    obtain ⟨e0, I0⟩ := inv_new n [] []
    rw [if_neg (by simp), open_eq (WFd.new n) hn4, e0]
    dsimp only [Option.bind_some]
    have key : ∃ r, lp (law18_StoreGens_b0 a1) (⟨RG0, false, 0, false, false⟩, 0, 0, dnew n) = some r ∧ ∃ x, r = .inl x := by
      refine lp_all (fun k (t : store_Store × Int × Int × disk_Disk) => t.2.2.1 = (k : Int) ∧ t.2.2.2.pending.length ≤ 1100 * k ∧ (∃ m1 m2 ys nst nen, Inv n t.1 t.2.2.2 m1 m2 ys nst nen) ∧ 0 ≤ t.2.1 ∧ (t.2.1 = 0 ∨ (t.1.has_ = true ∧ t.2.1 ≤ t.1.now.Gen))) _ a1.length (by omega) ⟨rfl, Nat.zero_le _, ⟨_, _, _, _, _, I0⟩, by dsimp only; omega, .inl rfl⟩ ?_ ?_
      · rintro k ⟨s, last, i, d⟩ hk ⟨hi, hp, ⟨m1, m2, ys, nst, nen, I⟩, hlast, hl2⟩
        dsimp only at hi hp I hlast hl2
        subst hi
        have go := good8 (g1.2 _ (getD_mem hk OP8))
        have D := do_did hn4 I go
        have hpd := do_pend I.w s (a1.getD k OP8)
        have hdo := I.do hn4 (by omega) go
        have hG := D.gens hlast hl2
        obtain ⟨m1', m2', ys', nst', nen', I'⟩ := D.inv
        generalize doT n d s (a1.getD k OP8) = t at D hpd hdo hG I'
        obtain ⟨s', c, d'⟩ := t
        dsimp only at hG I' hpd
        unfold law18_StoreGens_b0
        dsimp only
        rw [if_pos (by omega)]
        dsimp only [Option.bind_some]
        rw [if_pos rfl, if_pos (by omega), Int.toNat_natCast, hdo]
        dsimp only [Option.bind_some]
        have hwhat : ((if 0 ≤ (k : Int) ∧ (k : Int) < (a1.length : Int) then (if ((a1.getD k (⟨0, [], [], [], 0, []⟩ : law18_Op)).What) < 2 then some ((decide (c = 0))) else (if 0 ≤ (k : Int) ∧ (k : Int) < (a1.length : Int) then (if ((a1.getD k (⟨0, [], [], [], 0, []⟩ : law18_Op)).What) > 7 then some ((decide (c = 0))) else some false) else none)) else none) : Option (Bool)) = some (decide (Begins (a1.getD k OP8) ∧ c = 0)) := by
          rw [if_pos (by omega)]
          have hB : Begins (a1.getD k OP8) ↔ (a1.getD k OP8).What < 2 ∨ (a1.getD k OP8).What > 7 := Iff.rfl
          by_cases c1 : (a1.getD k OP8).What < 2
          · rw [if_pos c1]; congr 1; exact decide_eq_decide.2 ⟨fun h => ⟨hB.2 (.inl c1), h⟩, fun h => h.2⟩
          · rw [if_neg c1, if_pos (by omega)]
            by_cases c2 : (a1.getD k OP8).What > 7
            · rw [if_pos c2]; congr 1; exact decide_eq_decide.2 ⟨fun h => ⟨hB.2 (.inr c2), h⟩, fun h => h.2⟩
            · rw [if_neg c2]; congr 1; exact (decide_eq_false fun h => by rcases hB.1 h.1 with h | h; exact c1 h; exact c2 h).symm
        rw [hwhat]
        dsimp only [Option.bind_some]
        rcases hG with ⟨h1, h2, h3, h4⟩ | ⟨h1, h2⟩
        · rw [if_pos (decide_eq_true ⟨h1, h2⟩)]
          dsimp only [Option.bind_some, store_Store_Gen_f]
          rw [if_neg (by omega)]
          dsimp only [Option.bind_some]
          rw [w64n (by omega)]
          exact ⟨_, rfl, rfl, by dsimp only; omega, ⟨_, _, _, _, _, I'⟩, by dsimp only; omega, .inr ⟨h4, Int.le_refl _⟩⟩
        · rw [if_neg (by simpa using h1)]
          dsimp only [Option.bind_some]
          rw [w64n (by omega)]
          exact ⟨_, rfl, rfl, by dsimp only; omega, ⟨_, _, _, _, _, I'⟩, hlast, h2⟩
      · rintro ⟨s, last, i, d⟩ ⟨hi, _⟩
        dsimp only at hi
        subst hi
        exact ⟨_, by unfold law18_StoreGens_b0; dsimp only; rw [if_neg (by omega)]; rfl, _, rfl⟩
    obtain ⟨r, h1, x, rfl⟩ := key
    rw [h1]; rfl
end Go.Proofs.Ytpmkpiffbdcflaa
