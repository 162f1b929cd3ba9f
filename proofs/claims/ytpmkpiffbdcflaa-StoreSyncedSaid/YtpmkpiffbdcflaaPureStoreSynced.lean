/- The statement StoreSynced: plain Lean. -/
import Derived.Test.YtpmkpiffbdcflaaStoF
import Derived.Test.YtpmkpiffbdcflaaRegS
import Derived.Test.YtpmkpiffbdcflaaGStoreSynced
set_option linter.unusedVariables false
set_option linter.unusedSimpArgs false
namespace Go.Proofs.Ytpmkpiffbdcflaa
open Go Go.RowKit
theorem synced_cnt {f : Int × Int → Option (Int × Int ⊕ Int)} (l : List (List Int)) (hl : l.length ≤ maxLen) (x : Int)
    (hf : ∀ u v, f (u, v) = (((if v < (l.length : Int) then some ((decide (u < 9000))) else some false) : Option (Bool)).bind fun x => (if x = true then (if 0 ≤ v ∧ v < (l.length : Int) then some (.inl (IntKind.i64.wrap (u + (min (((l.getD (v : Int).toNat [])).length : Int) 9000)), IntKind.i64.wrap (v + 1))) else none) else some (.inr u)))) : ∃ r, lp f (x, 0) = some r := by
  have hm : maxLen ≤ 9223372036854775807 := by decide
  have key : ∃ r, lp f (x, 0) = some r ∧ True := by
    refine lp_run (fun k (s : Int × Int) => s.2 = (k : Int)) _ l.length (by omega) rfl ?_ ?_
    · rintro k ⟨u, v⟩ hk hv
      dsimp only at hv
      subst hv
      rw [hf, if_pos (by omega)]
      dsimp only [Option.bind_some]
      by_cases c : u < 9000
      · rw [if_pos (decide_eq_true c), if_pos (by omega), w64n (by omega)]
        exact .inl ⟨_, rfl, rfl⟩
      · rw [if_neg (by simpa using c)]
        exact .inr ⟨_, rfl, trivial⟩
    · rintro ⟨u, v⟩ hv
      dsimp only at hv
      subst hv
      rw [hf, if_neg (by omega)]
      exact ⟨_, rfl, trivial⟩
  obtain ⟨r, h, _⟩ := key
  exact ⟨r, h⟩
/-- What was begun is current, and nothing is broken. -/
structure Sd (n : Nat) (st : List Int) (kept m1 m2 : List (List Int)) (s : store_Store) (d : disk_Disk) : Prop where
  i : Inv n s d m1 m2 [] st kept
  h : s.has_ = true
  g : s.begun = true
  b : s.broken = false
  ss : s.now.State = st
  kk : s.now.Kept = kept
theorem Sd.app {n : Nat} (hn : n ≤ 4096) {st : List Int} {kept m1 m2 : List (List Int)} {s : store_Store} {d : disk_Disk} (S : Sd n st kept m1 m2 s d) {e : List Int} (he : Bytes e) : ∃ c s' d', store_Store_Append_f s e d = some (c, s', d') ∧ (d.fuse = -1 → d'.fuse = -1) ∧ ((c ≠ 0 ∧ Sd n st kept m1 m2 s' d') ∨ (c = 0 ∧ Sd n st kept m1 (m2 ++ [e]) s' d')) := by
  have hp := S.i.pend hn
  have ea := append_eq S.i.w hn (by omega) S.i.g (S.i.from_le hn) he
  rcases app_step hn S.i he with ⟨c, h1, h2, _⟩ | ⟨d', h1, _, _, h2, I'⟩
  · exact ⟨c, s, d, by rw [ea, h1], id, .inl ⟨h2, S⟩⟩
  · exact ⟨0, _, d', by rw [ea, h1], fun hf => by rw [h2, low_fuse S.i.w hf], .inr ⟨rfl, ⟨I', S.h, S.g, S.b, S.ss, S.kk⟩⟩⟩
theorem pure_StoreSynced (a0 : List Int) (a1 a2 a3 : List (List Int)) (a4 : List Bool) (a5 : Int) (g0 : a0.length ≤ maxLen ∧ ∀ y ∈ a0, 0 ≤ y ∧ y < 256) (g1 : a1.length ≤ maxLen ∧ ∀ y ∈ a1, y.length ≤ maxLen ∧ ∀ z ∈ y, 0 ≤ z ∧ z < 256) (g2 : a2.length ≤ maxLen ∧ ∀ y ∈ a2, y.length ≤ maxLen ∧ ∀ z ∈ y, 0 ≤ z ∧ z < 256) (g3 : a3.length ≤ maxLen ∧ ∀ y ∈ a3, y.length ≤ maxLen ∧ ∀ z ∈ y, 0 ≤ z ∧ z < 256) {q4 q5 : Prop} (g4 : q4) (g5 : q5) : law18_StoreSynced_f a0 a1 a2 a3 a4 a5 = some true := by
  have hm : maxLen ≤ 9223372036854775807 := by decide
  have hsb : Bytes a0 := g0.2
  have heb : ∀ e ∈ a1, Bytes e := fun e he => (g1.2 e he).2
  have he2 : ∀ e ∈ a2, Bytes e := fun e he => (g2.2 e he).2
  have he3 : ∀ e ∈ a3, Bytes e := fun e he => (g3.2 e he).2
  unfold law18_StoreSynced_f
  rw [head18_eq]
  dsimp only [Option.bind_some]
  rw [show disk_New_f 400 = some (some (dnew 400)) from new_eq (n := 400) (by omega)]
  dsimp only [Option.bind_some]
  obtain ⟨r1, e1⟩ := synced_cnt (f := law18_StoreSynced_b2 a1) a1 g1.1 (IntKind.i64.wrap ((IntKind.i64.wrap ((a1.length : Int) + (a2.length : Int))) + (a3.length : Int))) (fun u v => rfl)
  rw [e1]
  dsimp only [Option.bind_some]
  obtain ⟨r2, e2⟩ := synced_cnt (f := law18_StoreSynced_b3 a2) a2 g2.1 r1 (fun u v => rfl)
  rw [e2]
  dsimp only [Option.bind_some]
  by_cases c1 : r2 ≥ 9000
  · rw [if_pos c1]
  · rw [if_neg c1]
    by_cases c2 : (a3.length : Int) > 60
    · rw [if_pos c2]
    · rw [if_neg c2]
      by_cases c3 : (a0.length : Int) > 3000
      · rw [if_pos c3]
      · rw [if_neg c3]
        by_cases c4 : (a4.length : Int) > 900
        · rw [if_pos c4]
        · have hn4 : (400 : Nat) ≤ 4096 := by omega
          have hh : hf 400 = 200 := rfl
          obtain ⟨e0, I0⟩ := inv_new 400 [] []
          rw [if_neg c4, open_eq (WFd.new 400) hn4, e0]
          dsimp only [Option.bind_some]
          rw [begin_eq (WFd.new 400) hn4 (Nat.zero_le _) _ hsb heb]
          dsimp only [Option.bind_some]
          have hbf := beg_fuse (WFd.new 400) rfl ⟨RG0, false, 0, false, false⟩ a0 a1
          rcases beg_step hn4 I0 rfl hsb heb with e | ⟨c, d', e, hc, _⟩ | ⟨g, d', e, hg, I⟩
          · rw [e]
            dsimp only
            rw [if_pos (by decide)]
          · rw [e]
            dsimp only
            rw [if_pos (by omega)]
          · rw [e] at hbf ⊢
            dsimp only at hbf ⊢
            have hkl := I.g.kl
            dsimp only at hkl
            rw [if_neg (by simp), if_pos (by omega)]
            have S0 : Sd 400 a0 a1 [] [] ⟨⟨g, a0, a1, []⟩, true, othr 400 ⟨RG0, false, 0, false, false⟩, true, false⟩ d' := ⟨I, rfl, rfl, rfl, rfl, rfl⟩
            generalize (⟨⟨g, a0, a1, []⟩, true, othr 400 ⟨RG0, false, 0, false, false⟩, true, false⟩ : store_Store) = s0 at S0 ⊢
            have key : ∃ r, lp (law18_StoreSynced_b4 a2) (a1, 0, d', s0) = some r ∧ ∃ m, Sd 400 a0 a1 [] m r.2.2 r.2.1 ∧ r.1 = a1 ++ m ∧ r.2.1.fuse = -1 := by
              refine lp_all (fun k (t : List (List Int) × Int × disk_Disk × store_Store) => t.2.1 = (k : Int) ∧ ∃ m, Sd 400 a0 a1 [] m t.2.2.2 t.2.2.1 ∧ t.1 = a1 ++ m ∧ t.2.2.1.fuse = -1) _ a2.length (by omega) ⟨rfl, [], S0, (List.append_nil _).symm, hbf⟩ ?_ ?_
              · rintro k ⟨w, i, d, s⟩ hk ⟨hi, m, H, hw, hfu⟩
                dsimp only at hi H hw hfu
                subst hi hw
                obtain ⟨c, s', d', ha, hfu', hcase⟩ := H.app hn4 (he2 _ (getD_mem hk []))
                have hml : m.length ≤ 4096 := by have h1 := H.i.g.ml; have h2 := H.i.more; rw [List.nil_append] at h2; rw [← h2]; exact h1
                unfold law18_StoreSynced_b4
                dsimp only
                rw [if_pos (by omega), if_pos (by omega), Int.toNat_natCast, ha, w64n (by omega)]
                dsimp only [Option.bind_some]
                rcases hcase with ⟨hc, H'⟩ | ⟨rfl, H'⟩
                · rw [if_neg hc]
                  exact ⟨_, rfl, rfl, m, H', rfl, hfu' hfu⟩
                · rw [if_pos rfl, if_pos (by omega), if_pos (by rw [List.length_append]; omega)]
                  exact ⟨_, rfl, rfl, _, H', by rw [List.append_assoc], hfu' hfu⟩
              · rintro ⟨w, i, d, s⟩ ⟨hi, m, H, hw, hfu⟩
                dsimp only at hi H hw hfu
                subst hi hw
                exact ⟨_, by unfold law18_StoreSynced_b4; dsimp only; rw [if_neg (by omega)], m, H, rfl, hfu⟩
            obtain ⟨⟨w, d1, s1⟩, e5, m, H, hw, hfu⟩ := key
            dsimp only at H hw hfu
            subst hw
            rw [e5]
            dsimp only [Option.bind_some]
            have hp1 := H.i.pend hn4
            rw [syncT_eq H.i.w (by omega)]
            dsimp only [Option.bind_some]
            rcases syn_step hn4 H.i with ⟨c, es, hc, _, hno⟩ | ⟨d2, es, _, _, I2⟩
            · exfalso
              rcases hno (by rw [hfu]; decide) with h | h
              · rw [H.b] at h; cases h
              · rw [H.g] at h; cases h
            · rw [es]
              dsimp only
              have S2 : Sd 400 a0 a1 m [] s1 d2 := ⟨by rw [List.nil_append] at I2; exact I2, H.h, H.g, H.b, H.ss, H.kk⟩
              have key : ∃ r, lp (law18_StoreSynced_b5 a3) (0, d2, s1) = some r ∧ ∃ m2, Sd 400 a0 a1 m m2 r.2 r.1 ∧ m2.length ≤ a3.length := by
                refine lp_all (fun k (t : Int × disk_Disk × store_Store) => t.1 = (k : Int) ∧ ∃ m2, Sd 400 a0 a1 m m2 t.2.2 t.2.1 ∧ m2.length ≤ k) _ a3.length (by omega) ⟨rfl, [], S2, Nat.le_refl _⟩ ?_ ?_
                · rintro k ⟨i, d, s⟩ hk ⟨hi, m2, H, hl⟩
                  dsimp only at hi H hl
                  subst hi
                  obtain ⟨c, s', d', ha, _, hcase⟩ := H.app hn4 (he3 _ (getD_mem hk []))
                  unfold law18_StoreSynced_b5
                  dsimp only
                  rw [if_pos (by omega), if_pos (by omega), Int.toNat_natCast, ha, w64n (by omega)]
                  dsimp only [Option.bind_some]
                  rcases hcase with ⟨hc, H'⟩ | ⟨rfl, H'⟩
                  · exact ⟨_, rfl, rfl, m2, H', by omega⟩
                  · exact ⟨_, rfl, rfl, _, H', by rw [List.length_append, List.length_singleton]; omega⟩
                · rintro ⟨i, d, s⟩ ⟨hi, m2, H, hl⟩
                  dsimp only at hi H hl
                  subst hi
                  exact ⟨_, by unfold law18_StoreSynced_b5; dsimp only; rw [if_neg (by omega)], m2, H, hl⟩
              obtain ⟨⟨d3, s3⟩, e6, m2, H3, hl3⟩ := key
              dsimp only at H3
              rw [e6]
              dsimp only [Option.bind_some]
              have hp3 := H3.i.pend hn4
              rw [crash_eq H3.i.w (by omega)]
              dsimp only [Option.bind_some]
              have W4 := H3.i.w.cra a4 a5
              rw [open_eq W4 hn4]
              dsimp only [Option.bind_some]
              obtain ⟨s4, m1', eo, I4, _, _, hcase⟩ := crash_step hn4 H3.i a4 a5 [] []
              rw [eo, entries_eq I4.g]
              dsimp only [Option.bind_some, store_Store_Has_f]
              rcases hcase with ⟨_, hh4, _, hs4, hk4, j, hj, hm4⟩ | ⟨hb4, _⟩ | ⟨hh4, _⟩
              · have hml : m.length ≤ 4096 ∧ s4.now.More.length ≤ 4096 := by
                  have h1 := H.i.g.ml
                  have h2 := H.i.more
                  rw [List.nil_append] at h2
                  exact ⟨by rw [← h2]; exact h1, I4.g.ml⟩
                rw [stateT_eq I4.g]
                dsimp only [Option.bind_some]
                rw [hs4, hk4, H3.ss, H3.kk, hm4, hh4, if_pos rfl, if_pos rfl, if_pos rfl, if_pos rfl]
                have hlen : (a1 ++ (m ++ m2.take j)).length = a1.length + (m.length + j) := by rw [List.length_append, List.length_append, List.length_take]; omega
                have hlen2 : (a1 ++ m).length = a1.length + m.length := List.length_append
                rw [hlen, hlen2]
                have emin : min ((a1.length + m.length : Nat) : Int) ((a1.length + (m.length + j) : Nat) : Int) = ((a1.length + m.length : Nat) : Int) := by omega
                rw [emin, if_pos (by omega), if_pos (by omega), Int.toNat_natCast, show ((0 : Int)).toNat = 0 from rfl, List.drop_zero, ← List.append_assoc, List.take_left' hlen2, sameRows_eq _ _ (by rw [hlen2]; omega), decide_eq_true rfl]
                dsimp only [Option.bind_some]
                rw [if_pos rfl, w64 (by omega) (by omega), decide_eq_true (by omega)]
                rfl
              · rw [H3.b] at hb4; cases hb4
              · rw [H3.h] at hh4; cases hh4
end Go.Proofs.Ytpmkpiffbdcflaa
