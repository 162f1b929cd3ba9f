/- LanOrder in plain Lean. -/
import Derived.Test.YtflkagoglhckoaaPurePlays
import Derived.Test.YtflkagoglhckoaaGLanOrder
set_option linter.unusedVariables false
set_option linter.unusedSimpArgs false
namespace Go.Proofs.Ytflkagoglhckoaa
open Go Go.RowKit
/-- What is put to a party. -/
def sent (l : List law22_Op) (k : Int) : List (List Int) := (l.filter fun o => decide (o.To = k)).map (·.B)
theorem sent_len (l : List law22_Op) (k : Int) : (sent l k).length ≤ l.length := by
  unfold sent
  rw [List.length_map]
  exact List.length_filter_le _ _
theorem sent_snoc (l : List law22_Op) (o : law22_Op) (k : Int) : sent (l ++ [o]) k = if o.To = k then sent l k ++ [o.B] else sent l k := by
  unfold sent
  rw [List.filter_append, List.map_append]
  by_cases h : o.To = k <;> simp [h]
theorem sent_sm {l : List law22_Op} (hs : ∀ o ∈ l, o.B.length ≤ 9000) (k : Int) : Sm (sent l k) := by
  intro x hx
  obtain ⟨o, ho, rfl⟩ := List.mem_map.1 hx
  exact Nat.le_trans (hs o (List.mem_filter.1 ho).1) (by simp [M])
theorem put_any {p q : List (List Int)} (hp : p.length < 2048) (hq : q.length < 2048) (t : Int) {b : List Int} (hb : b.length ≤ M) : lan_Lan_Put_f (L p q) t b = some (decide (t = 0 ∨ t = 1), L (if t = 0 then p ++ [b] else p) (if t = 1 then q ++ [b] else q)) := by
  by_cases h0 : t = 0
  · subst h0
    rw [put0 hb (by omega)]
    simp [putOn, hp]
  · by_cases h1 : t = 1
    · subst h1
      rw [put1 hb (by omega)]
      simp [putOn, hq]
    · rw [putN h0 h1]
      simp [h0, h1]
theorem way_if {p q : List (List Int)} (k : Int) (hk : k = 0 ∨ k = 1) (hp : p.length ≤ 2048) (hq : q.length ≤ 2048) (sp : Sm p) (sq : Sm q) (i : Int) (g : Bool) : lan_Lan_arrives_f (L p q) k i g = some (if inB (if k = 0 then p else q) i then ((if k = 0 then p else q).getD i.toNat [], true, if g then (if k = 0 then L (p.eraseIdx i.toNat) q else L p (q.eraseIdx i.toNat)) else L p q) else ([], false, L p q)) := by
  rcases hk with rfl | rfl
  · rw [arr0 hp sp]; simp
  · rw [arr1 hq sq]; simp
theorem many_if (p q : List (List Int)) (k : Int) (hk : k = 0 ∨ k = 1) : lan_Lan_Many_f (L p q) k = some ((if k = 0 then p else q).length : Int) := by
  rcases hk with rfl | rfl
  · rw [many0]; simp
  · rw [many1]; simp
theorem same_self (a : List (List Int)) (h : a.length ≤ 2048) : ref17_SameRows_f a a = some true := by
  unfold ref17_SameRows_f
  rw [if_neg (by simp)]
  obtain ⟨r, hr, rfl⟩ := lp_all (f := ref17_SameRows_b0 a a) (s := (0 : Int)) (fun j s => s = (j : Int)) (fun r => r = .inl ()) a.length (by omega) rfl (by
    rintro j _ hj rfl
    dsimp only [ref17_SameRows_b0]
    rw [if_pos (by omega), if_pos (by omega), if_pos (by omega), if_neg (by simp)]
    exact ⟨_, rfl, w64n (by omega)⟩) (by
    rintro _ rfl
    dsimp only [ref17_SameRows_b0]
    rw [if_neg (by omega)]
    exact ⟨_, rfl, rfl⟩)
  rw [hr]
  rfl
theorem order_b0 {l : List law22_Op} (hs : ∀ o ∈ l, o.B.length ≤ 9000) (hl : l.length ≤ 200) {k : Int} (hk : k = 0 ∨ k = 1) {j : Nat} (hj : j < l.length) :
    law22_LanOrder_b0 l k (sent (l.take j) k, (j : Int), L (sent (l.take j) 0) (sent (l.take j) 1)) = some (.inl (sent (l.take (j + 1)) k, ((j + 1 : Nat) : Int), L (sent (l.take (j + 1)) 0) (sent (l.take (j + 1)) 1))) := by
  have e1 : l.getD (j : Int).toNat (⟨0, 0, 0, []⟩ : law22_Op) = l[j] := by simp [List.getD_eq_getElem?_getD, hj]
  have hb : l[j].B.length ≤ M := Nat.le_trans (hs _ (List.getElem_mem hj)) (by simp [M])
  have n0 := sent_len (l.take j) 0
  have n1 := sent_len (l.take j) 1
  have nk := sent_len (l.take j) k
  rw [List.length_take] at n0 n1 nk
  rw [List.take_succ_eq_append_getElem hj]
  simp only [sent_snoc]
  generalize ho : l[j] = o at e1 hb
  generalize sent (l.take j) 0 = p at n0
  generalize sent (l.take j) 1 = q at n1
  generalize sent (l.take j) k = z at nk
  dsimp only [law22_LanOrder_b0]
  rw [if_pos (by omega), if_pos (by omega), if_pos (by omega), if_pos (by omega)]
  simp only [e1]
  rw [put_any (by omega) (by omega) o.To hb, Option.bind_some]
  simp only []
  have hz : (z.length + 1) * 24 ≤ 140737488355328 := by omega
  have hji : (0 : Int) ≤ j ∧ (j : Int) < l.length := by omega
  by_cases h0 : o.To = 0
  · rw [if_pos h0]
    simp only [h0, true_or, decide_true, bne_self_eq_false, Bool.false_eq_true, if_false, if_pos hji, if_pos hz, w64n (show j < 9223372036854775807 by omega)]
    by_cases hk0 : (0 : Int) = k
    · simp [hk0]
    · simp [hk0]
  · rw [if_neg h0, if_pos hji]
    have : (decide (o.To = 0 ∨ o.To = 1) != decide (o.To = 1)) = false := by simp [h0]
    rw [this]
    simp only [Bool.false_eq_true, if_false, if_pos hji, if_pos hz, w64n (show j < 9223372036854775807 by omega), if_neg h0]
    by_cases hk0 : o.To = k
    · simp [hk0]
    · simp [hk0]
theorem order_b1 {p q : List (List Int)} {k : Int} (hk : k = 0 ∨ k = 1) (hp : p.length ≤ 200) (hq : q.length ≤ 200) (sp : Sm p) (sq : Sm q) {x : List (List Int)} (hx : x = if k = 0 then p else q) :
    ∃ r, lp (law22_LanOrder_b1 k x) ([], 0, L p q) = some r ∧ r = .inl (x, if k = 0 then L [] q else L p []) := by
  have hxl : x.length ≤ 200 := by rw [hx]; split <;> assumption
  have hxs : Sm x := by rw [hx]; split <;> assumption
  have drop_sm : ∀ {y : List (List Int)} j, Sm y → Sm (y.drop j) := fun j h z hz => h z (List.mem_of_mem_drop hz)
  refine lp_all (fun j s => s = (x.take j, (j : Int), if k = 0 then L (x.drop j) q else L p (x.drop j))) _ x.length (by omega) (by
    rcases hk with rfl | rfl
    · simp [hx]
    · simp [hx]) (by
    rintro j _ hj rfl
    have hd : (x.drop j).length ≤ 2048 := by rw [List.length_drop]; omega
    have e2 : (x.drop j).eraseIdx 0 = x.drop (j + 1) := by rw [List.drop_eq_getElem_cons hj]; rfl
    have e3 : (x.drop j).getD 0 [] = x[j] := by rw [List.drop_eq_getElem_cons hj]; rfl
    have hin : inB (x.drop j) 0 := by unfold inB; rw [List.length_drop]; omega
    have htk : ((x.take j).length + 1) * 24 ≤ 140737488355328 := by rw [List.length_take]; omega
    dsimp only [law22_LanOrder_b1]
    rw [if_pos (by omega), take_arr]
    rcases hk with rfl | rfl
    · simp only [if_true]
      rw [arr0 hd (drop_sm j hxs), if_pos hin, Option.bind_some]
      simp only [if_true, if_pos htk, Int.toNat_zero, e2, e3]
      exact ⟨_, rfl, by rw [w64n (by omega), List.take_succ_eq_append_getElem hj]⟩
    · simp only [show ¬ ((1 : Int) = 0) by decide, if_false]
      rw [arr1 hd (drop_sm j hxs), if_pos hin, Option.bind_some]
      simp only [if_true, if_pos htk, Int.toNat_zero, e2, e3]
      exact ⟨_, rfl, by rw [w64n (by omega), List.take_succ_eq_append_getElem hj]⟩) (by
    rintro _ rfl
    dsimp only [law22_LanOrder_b1]
    rw [if_neg (by omega), List.take_length, List.drop_length]
    exact ⟨_, rfl, rfl⟩)
theorem pure_LanOrder (a0 : List law22_Op) (a1 : Bool) (g0 : a0.length ≤ maxLen ∧ ∀ y ∈ a0, good_law22_Op y) : law22_LanOrder_f a0 a1 = some true := by
  unfold law22_LanOrder_f
  obtain ⟨g, hg, hs⟩ := great_ok g0.1
  rw [head_ok, Option.bind_some, hg, Option.bind_some]
  cases g
  · obtain ⟨h1, h2⟩ := hs rfl
    rw [if_neg (by decide)]
    obtain ⟨k, hk, hk'⟩ : ∃ k : Int, (if a1 = true then some 1 else some 0 : Option Int) = some k ∧ (k = 0 ∨ k = 1) := by
      cases a1
      · exact ⟨0, rfl, .inl rfl⟩
      · exact ⟨1, rfl, .inr rfl⟩
    rw [hk, Option.bind_some]
    obtain ⟨r, hr, rfl⟩ := lp_all (f := law22_LanOrder_b0 a0 k) (s := ([], 0, L [] [])) (fun j s => s = (sent (a0.take j) k, (j : Int), L (sent (a0.take j) 0) (sent (a0.take j) 1))) (fun r => r = .inl (sent a0 k, L (sent a0 0) (sent a0 1))) a0.length (by omega) (by simp [sent]) (by
      rintro j _ hj rfl
      exact ⟨_, order_b0 h2 h1 hk' hj, rfl⟩) (by
      rintro _ rfl
      dsimp only [law22_LanOrder_b0]
      rw [if_neg (by omega), List.take_length]
      exact ⟨_, rfl, rfl⟩)
    rw [show (([], 0, (⟨(⟨[]⟩, ⟨[]⟩)⟩ : lan_Lan)) : List (List Int) × Int × lan_Lan) = ([], 0, L [] []) from rfl, hr, Option.bind_some]
    simp only []
    have n0 := sent_len a0 0
    have n1 := sent_len a0 1
    have nk := sent_len a0 k
    obtain ⟨r, hr, rfl⟩ := order_b1 (p := sent a0 0) (q := sent a0 1) hk' (by omega) (by omega) (sent_sm h2 0) (sent_sm h2 1) (x := sent a0 k) (by rcases hk' with rfl | rfl <;> simp)
    rw [hr, Option.bind_some]
    simp only []
    have hin : ¬ inB ([] : List (List Int)) 0 := by unfold inB; simp
    have sn : Sm [] := fun _ h => by cases h
    rw [take_arr]
    rcases hk' with rfl | rfl
    · simp only [if_true]
      rw [arr0 (by simp) sn, if_neg hin, Option.bind_some]
      simp only [if_true, same_self _ (show (sent a0 0).length ≤ 2048 by omega), Option.bind_some, many0]
      rfl
    · simp only [show ¬ ((1 : Int) = 0) by decide, if_false]
      rw [arr1 (by simp) sn, if_neg hin, Option.bind_some]
      simp only [if_true, same_self _ (show (sent a0 1).length ≤ 2048 by omega), Option.bind_some, many1]
      rfl
  · rfl
end Go.Proofs.Ytflkagoglhckoaa
