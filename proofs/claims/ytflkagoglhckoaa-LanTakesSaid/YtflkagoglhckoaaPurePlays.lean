/- LanPlays in plain Lean. -/
import Derived.Test.YtflkagoglhckoaaPureRef
import Derived.Test.YtflkagoglhckoaaGLanPlays
set_option linter.unusedVariables false
set_option linter.unusedSimpArgs false
namespace Go.Proofs.Ytflkagoglhckoaa
open Go Go.RowKit
/-- Two ways that are not too long. -/
def Ok2 (p q : List (List Int)) : Prop := p.length ≤ 2048 ∧ q.length ≤ 2048 ∧ Sm p ∧ Sm q
theorem sm_erase {p : List (List Int)} (h : Sm p) (i : Nat) : Sm (p.eraseIdx i) := fun x hx => h x (List.mem_of_mem_eraseIdx hx)
theorem len_erase {p : List (List Int)} (h : p.length ≤ 2048) (i : Nat) : (p.eraseIdx i).length ≤ 2048 := Nat.le_trans (List.length_eraseIdx_le p i) h
theorem take_both {p q : List (List Int)} (h : Ok2 p q) (t i : Int) : ∃ r a p' q', lan_Lan_Take_f (L p q) t i = some (r, a, L p' q') ∧ ref22_Lan_Take_f (R p q) t i = some (r, a, R p' q') ∧ Ok2 p' q' := by
  obtain ⟨hp, hq, sp, sq⟩ := h
  by_cases h0 : t = 0
  · subst h0
    rw [take_arr, arr0 hp sp, rtake0 hp sp]
    by_cases hi : inB p i
    · rw [if_pos hi, if_pos hi]
      exact ⟨_, _, _, _, rfl, rfl, len_erase hp _, hq, sm_erase sp _, sq⟩
    · rw [if_neg hi, if_neg hi]
      exact ⟨_, _, _, _, rfl, rfl, hp, hq, sp, sq⟩
  · by_cases h1 : t = 1
    · subst h1
      rw [take_arr, arr1 hq sq, rtake1 hq sq]
      by_cases hi : inB q i
      · rw [if_pos hi, if_pos hi]
        exact ⟨_, _, _, _, rfl, rfl, hp, len_erase hq _, sp, sm_erase sq _⟩
      · rw [if_neg hi, if_neg hi]
        exact ⟨_, _, _, _, rfl, rfl, hp, hq, sp, sq⟩
    · rw [take_arr, arrN h0 h1, rtakeN p q h0 h1]
      exact ⟨_, _, _, _, rfl, rfl, hp, hq, sp, sq⟩
theorem copy_both {p q : List (List Int)} (h : Ok2 p q) (t i : Int) : ∃ r a, lan_Lan_Copy_f (L p q) t i = some (r, a, L p q) ∧ ref22_Lan_Copy_f (R p q) t i = some (r, a) := by
  obtain ⟨hp, hq, sp, sq⟩ := h
  by_cases h0 : t = 0
  · subst h0
    rw [copy_arr, arr0 hp sp, rcopy0 sp]
    by_cases hi : inB p i
    · rw [if_pos hi, if_pos hi]; exact ⟨_, _, rfl, rfl⟩
    · rw [if_neg hi, if_neg hi]; exact ⟨_, _, rfl, rfl⟩
  · by_cases h1 : t = 1
    · subst h1
      rw [copy_arr, arr1 hq sq, rcopy1 sq]
      by_cases hi : inB q i
      · rw [if_pos hi, if_pos hi]; exact ⟨_, _, rfl, rfl⟩
      · rw [if_neg hi, if_neg hi]; exact ⟨_, _, rfl, rfl⟩
    · rw [copy_arr, arrN h0 h1, rcopyN p q h0 h1]
      exact ⟨_, _, rfl, rfl⟩
theorem put_both {p q : List (List Int)} (h : Ok2 p q) (t : Int) {b : List Int} (hb : b.length ≤ M) : ∃ a p' q', lan_Lan_Put_f (L p q) t b = some (a, L p' q') ∧ ref22_Lan_Put_f (R p q) t b = some (a, R p' q') ∧ Ok2 p' q' := by
  obtain ⟨hp, hq, sp, sq⟩ := h
  by_cases h0 : t = 0
  · subst h0
    rw [put0 hb hp, rputo0 hb hp]
    exact ⟨_, _, _, rfl, rfl, putOn_len hp, hq, putOn_sm sp hb, sq⟩
  · by_cases h1 : t = 1
    · subst h1
      rw [put1 hb hq, rputo1 hb hq]
      exact ⟨_, _, _, rfl, rfl, hp, putOn_len hq, sp, putOn_sm sq hb⟩
    · rw [putN h0 h1, rputoN p q h0 h1]
      exact ⟨_, _, _, rfl, rfl, hp, hq, sp, sq⟩
theorem many_both (p q : List (List Int)) (t : Int) : ∃ n, lan_Lan_Many_f (L p q) t = some n ∧ ref22_Lan_Many_f (R p q) t = some n := by
  by_cases h0 : t = 0
  · subst h0; exact ⟨_, many0 p q, rmany0 p q⟩
  · by_cases h1 : t = 1
    · subst h1; exact ⟨_, many1 p q, rmany1 p q⟩
    · exact ⟨_, manyN _ h0 h1, rmanyN p q h0 h1⟩
theorem plays_step {l : List law22_Op} (hs : ∀ o ∈ l, o.B.length ≤ 9000) (hl : l.length ≤ 200) {j : Nat} (hj : j < l.length) {p q : List (List Int)} (h : Ok2 p q) : ∃ p' q', law22_LanPlays_b0 l ((j : Int), L p q, R p q) = some (.inl (((j + 1 : Nat) : Int), L p' q', R p' q')) ∧ Ok2 p' q' := by
  have e1 : l.getD (j : Int).toNat (⟨0, 0, 0, []⟩ : law22_Op) = l[j] := by simp [List.getD_eq_getElem?_getD, hj]
  have hb : l[j].B.length ≤ M := Nat.le_trans (hs _ (List.getElem_mem hj)) (by simp [M])
  generalize ho : l[j] = o at e1 hb
  dsimp only [law22_LanPlays_b0]
  rw [if_pos (by omega), if_pos (by omega)]
  simp only [e1]
  have fin : ∀ (a : Bool) (r : List Int) (p' q' : List (List Int)), (if (a != a) = true then some (.inr (.inr false)) else (if r ≠ r then some (.inr (.inr false)) else ((lan_Lan_Many_f (L p' q') 0).bind fun x81 => ((ref22_Lan_Many_f (R p' q') 0).bind fun x83 => (if x81 ≠ x83 then some (.inr (.inr false)) else ((lan_Lan_Many_f (L p' q') 1).bind fun x86 => ((ref22_Lan_Many_f (R p' q') 1).bind fun x88 => (if x86 ≠ x88 then some (.inr (.inr false)) else ((lan_Lan_Many_f (L p' q') o.To).bind fun x91 => ((ref22_Lan_Many_f (R p' q') o.To).bind fun x93 => (if x91 ≠ x93 then some (.inr (.inr false)) else some (.inl (IntKind.i64.wrap ((j : Int) + 1), L p' q', R p' q')))))))))))) : Option (Int × lan_Lan × ref22_Lan ⊕ ((lan_Lan × ref22_Lan) ⊕ Bool))) = some (.inl (((j + 1 : Nat) : Int), L p' q', R p' q')) := by
    intro a r p' q'
    obtain ⟨n0, m0, k0⟩ := many_both p' q' 0
    obtain ⟨n1, m1, k1⟩ := many_both p' q' 1
    obtain ⟨n2, m2, k2⟩ := many_both p' q' o.To
    rw [if_neg (by simp), if_neg (by simp), m0, k0, Option.bind_some, Option.bind_some, if_neg (by simp), m1, k1, Option.bind_some, Option.bind_some, if_neg (by simp), m2, k2, Option.bind_some, Option.bind_some, if_neg (by simp), w64n (by omega)]
  by_cases h2 : o.What = 2
  · obtain ⟨r, a, p', q', t1, t2, ok⟩ := take_both h o.To o.I
    rw [if_pos h2, t1, Option.bind_some]
    simp only [t2, Option.bind_some]
    exact ⟨p', q', fin a r p' q', ok⟩
  · rw [if_neg h2]
    by_cases h3 : o.What = 3
    · obtain ⟨r, a, t1, t2⟩ := copy_both h o.To o.I
      rw [if_pos h3, t1, Option.bind_some]
      simp only [t2, Option.bind_some]
      exact ⟨p, q, fin a r p q, h⟩
    · obtain ⟨a, p', q', t1, t2, ok⟩ := put_both h o.To hb
      rw [if_neg h3, t1, Option.bind_some]
      simp only [t2, Option.bind_some]
      exact ⟨p', q', fin a [] p' q', ok⟩
theorem ok2_nil : Ok2 [] [] := ⟨by simp, by simp, fun _ h => (by cases h), fun _ h => (by cases h)⟩
theorem pure_LanPlays (a0 : List law22_Op) (g0 : a0.length ≤ maxLen ∧ ∀ y ∈ a0, good_law22_Op y) : law22_LanPlays_f a0 = some true := by
  unfold law22_LanPlays_f
  obtain ⟨g, hg, hs⟩ := great_ok g0.1
  rw [head_ok, Option.bind_some, hg, Option.bind_some]
  cases g
  · obtain ⟨h1, h2⟩ := hs rfl
    rw [if_neg (by decide)]
    obtain ⟨r, hr, ⟨x, rfl⟩⟩ := lp_all (f := law22_LanPlays_b0 a0) (s := (0, L [] [], R [] [])) (fun j s => ∃ p q, s = ((j : Int), L p q, R p q) ∧ Ok2 p q) (fun r => ∃ x, r = .inl x) a0.length (by omega) ⟨[], [], rfl, ok2_nil⟩ (by
      rintro j _ hj ⟨p, q, rfl, h⟩
      obtain ⟨p', q', e, ok⟩ := plays_step h2 h1 hj h
      exact ⟨_, e, p', q', rfl, ok⟩) (by
      rintro _ ⟨p, q, rfl, h⟩
      dsimp only [law22_LanPlays_b0]
      rw [if_neg (by omega)]
      exact ⟨_, rfl, _, rfl⟩)
    rw [show ((0, (⟨(⟨[]⟩, ⟨[]⟩)⟩ : lan_Lan), (⟨[], []⟩ : ref22_Lan)) : Int × lan_Lan × ref22_Lan) = (0, L [] [], R [] []) from rfl, hr]
    rfl
  · rfl
end Go.Proofs.Ytflkagoglhckoaa
