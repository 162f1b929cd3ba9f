/- LanTakes in plain Lean. -/
import Derived.Test.YtflkagoglhckoaaPureOrder
import Derived.Test.YtflkagoglhckoaaGLanTakes
set_option linter.unusedVariables false
set_option linter.unusedSimpArgs false
namespace Go.Proofs.Ytflkagoglhckoaa
open Go Go.RowKit
theorem takes_b0 {l : List law22_Op} (hs : ∀ o ∈ l, o.B.length ≤ 9000) (hl : l.length ≤ 200) {j : Nat} (hj : j < l.length) :
    law22_LanTakes_b0 l ((j : Int), L (sent (l.take j) 0) (sent (l.take j) 1)) = some (.inl (((j + 1 : Nat) : Int), L (sent (l.take (j + 1)) 0) (sent (l.take (j + 1)) 1))) := by
  have e1 : l.getD (j : Int).toNat (⟨0, 0, 0, []⟩ : law22_Op) = l[j] := by simp [List.getD_eq_getElem?_getD, hj]
  have hb : l[j].B.length ≤ M := Nat.le_trans (hs _ (List.getElem_mem hj)) (by simp [M])
  have n0 := sent_len (l.take j) 0
  have n1 := sent_len (l.take j) 1
  rw [List.length_take] at n0 n1
  rw [List.take_succ_eq_append_getElem hj]
  simp only [sent_snoc]
  generalize ho : l[j] = o at e1 hb
  dsimp only [law22_LanTakes_b0]
  rw [if_pos (by omega), if_pos (by omega), if_pos (by omega)]
  simp only [e1]
  rw [put_any (by omega) (by omega) o.To hb, Option.bind_some]
  simp only [w64n (show j < 9223372036854775807 by omega)]
/-- The way to k, of two; and both, with another in its place. -/
def wk (p q : List (List Int)) (k : Int) : List (List Int) := if k = 0 then p else q
def put2 (p q : List (List Int)) (k : Int) (x : List (List Int)) : lan_Lan := if k = 0 then L x q else L p x
theorem put2_self (p q : List (List Int)) (k : Int) : put2 p q k (wk p q k) = L p q := by unfold put2 wk; split <;> rfl
theorem arr2 {p q : List (List Int)} {k : Int} (hk : k = 0 ∨ k = 1) (hp : p.length ≤ 2048) (hq : q.length ≤ 2048) (sp : Sm p) (sq : Sm q) {x : List (List Int)} (hx : x.length ≤ 2048) (sx : Sm x) (i : Int) (g : Bool) :
    lan_Lan_arrives_f (put2 p q k x) k i g = some (if inB x i then (x.getD i.toNat [], true, put2 p q k (if g then x.eraseIdx i.toNat else x)) else ([], false, put2 p q k x)) := by
  unfold put2
  rcases hk with rfl | rfl
  · simp only [if_true]
    rw [arr0 hx sx]
    cases g <;> simp
  · simp only [show ¬ ((1 : Int) = 0) by decide, if_false]
    rw [arr1 hx sx]
    cases g <;> simp
theorem many2 (p q : List (List Int)) {k : Int} (hk : k = 0 ∨ k = 1) (x : List (List Int)) : lan_Lan_Many_f (put2 p q k x) k = some (x.length : Int) := by
  unfold put2
  rcases hk with rfl | rfl
  · simp only [if_true]; exact many0 _ _
  · simp only [show ¬ ((1 : Int) = 0) by decide, if_false]; exact many1 _ _
theorem many2o (p q : List (List Int)) {k : Int} (hk : k = 0 ∨ k = 1) (x : List (List Int)) : lan_Lan_Many_f (put2 p q k x) (IntKind.i64.wrap (1 - k)) = some ((wk q p k).length : Int) := by
  unfold put2 wk
  rcases hk with rfl | rfl
  · rw [show IntKind.i64.wrap (1 - 0) = 1 from by decide]; simp only [if_true]; exact many1 _ _
  · rw [show IntKind.i64.wrap (1 - 1) = 0 from by decide]; simp only [show ¬ ((1 : Int) = 0) by decide, if_false]; exact many0 _ _
theorem takes_b1 {p q : List (List Int)} {k : Int} (hk : k = 0 ∨ k = 1) (hp : p.length ≤ 2048) (hq : q.length ≤ 2048) (sp : Sm p) (sq : Sm q) {x : List (List Int)} (hx : x.length ≤ 200) (sx : Sm x) :
    ∃ r, lp (law22_LanTakes_b1 k (x.length : Int)) ([], 0, put2 p q k x) = some r ∧ r = .inl (x, put2 p q k x) := by
  refine lp_all (fun j s => s = (x.take j, (j : Int), put2 p q k x)) _ x.length (by omega) (by simp) (by
    rintro j _ hj rfl
    have hin : inB x j := by unfold inB; omega
    have e3 : x.getD (j : Int).toNat [] = x[j] := by simp [List.getD_eq_getElem?_getD, hj]
    have htk : ((x.take j).length + 1) * 24 ≤ 140737488355328 := by rw [List.length_take]; omega
    dsimp only [law22_LanTakes_b1]
    rw [if_pos (by omega), copy_arr, arr2 hk hp hq sp sq (by omega) sx, if_pos hin, Option.bind_some]
    simp only [if_true, if_pos htk, e3, Bool.false_eq_true, if_false]
    exact ⟨_, rfl, by rw [w64n (by omega), List.take_succ_eq_append_getElem hj]⟩) (by
    rintro _ rfl
    dsimp only [law22_LanTakes_b1]
    rw [if_neg (by omega), List.take_length]
    exact ⟨_, rfl, rfl⟩)
theorem takes_b2 {p q : List (List Int)} {k : Int} (hk : k = 0 ∨ k = 1) (hp : p.length ≤ 2048) (hq : q.length ≤ 2048) (sp : Sm p) (sq : Sm q) {x : List (List Int)} (hx : x.length ≤ 200) (sx : Sm x) {a2 : Int} {i : Nat} (hi : (IntKind.i64.wrap a2).tmod (x.length : Int) = i) (hix : i < x.length) :
    ∃ r, lp (law22_LanTakes_b2 a2 k (x.length : Int) x) (0, put2 p q k (x.eraseIdx i)) = some r ∧ r = .inl (put2 p q k (x.eraseIdx i)) := by
  have hw : IntKind.i64.wrap ((x.length : Int) - 1) = ((x.length - 1 : Nat) : Int) := by rw [w64 (by omega) (by omega)]; omega
  have hel : (x.eraseIdx i).length = x.length - 1 := by rw [List.length_eraseIdx, if_pos hix]
  refine lp_all (fun j s => s = ((j : Int), put2 p q k (x.eraseIdx i))) _ (x.length - 1) (by omega) rfl (by
    rintro j _ hj rfl
    have hin : inB (x.eraseIdx i) j := by unfold inB; omega
    dsimp only [law22_LanTakes_b2]
    rw [hi, hw, if_pos (by omega), copy_arr, arr2 hk hp hq sp sq (by omega) (sm_erase sx i), if_pos hin, Option.bind_some]
    simp only [if_true, Bool.false_eq_true, if_false, w64n (show j < 9223372036854775807 by omega)]
    rw [if_pos (by omega)]
    have e3 : (x.eraseIdx i).getD (j : Int).toNat [] = if j < i then x[j]'(by omega) else x[j + 1]'(by omega) := by
      simp only [Int.toNat_natCast]
      rw [List.getD_eq_getElem?_getD, List.getElem?_eraseIdx]
      split
      · rw [List.getElem?_eq_getElem (by omega)]; rfl
      · rw [List.getElem?_eq_getElem (by omega)]; rfl
    by_cases hji : (j : Int) ≥ i
    · have e4 : x.getD ((j + 1 : Nat) : Int).toNat [] = x[j + 1]'(by omega) := by
        simp only [Int.toNat_natCast]
        rw [List.getD_eq_getElem?_getD, List.getElem?_eq_getElem (by omega)]; rfl
      rw [if_pos hji, if_pos (by omega), Option.bind_some, e4, e3, show (if j < i then x[j]'(by omega) else x[j + 1]'(by omega)) = x[j + 1]'(by omega) from if_neg (by omega), if_neg (by simp)]
      exact ⟨_, rfl, rfl⟩
    · have e4 : x.getD (j : Int).toNat [] = x[j]'(by omega) := by
        simp only [Int.toNat_natCast]
        rw [List.getD_eq_getElem?_getD, List.getElem?_eq_getElem (by omega)]; rfl
      rw [if_neg hji, Option.bind_some, e4, e3, show (if j < i then x[j]'(by omega) else x[j + 1]'(by omega)) = x[j]'(by omega) from if_pos (by omega), if_neg (by simp)]
      exact ⟨_, rfl, rfl⟩) (by
    rintro _ rfl
    dsimp only [law22_LanTakes_b2]
    rw [hw, if_neg (by omega)]
    exact ⟨_, rfl, rfl⟩)
theorem pure_LanTakes (a0 : List law22_Op) (a1 : Bool) (a2 : Int) (g0 : a0.length ≤ maxLen ∧ ∀ y ∈ a0, good_law22_Op y) (h2 : 0 ≤ a2 ∧ a2 < 256) : law22_LanTakes_f a0 a1 a2 = some true := by
  unfold law22_LanTakes_f
  obtain ⟨g, hg, hs⟩ := great_ok g0.1
  rw [head_ok, Option.bind_some, hg, Option.bind_some]
  cases g
  · obtain ⟨h1, hB⟩ := hs rfl
    rw [if_neg (by decide)]
    obtain ⟨k, hk, hk'⟩ : ∃ k : Int, (if a1 = true then some 1 else some 0 : Option Int) = some k ∧ (k = 0 ∨ k = 1) := by
      cases a1
      · exact ⟨0, rfl, .inl rfl⟩
      · exact ⟨1, rfl, .inr rfl⟩
    rw [hk, Option.bind_some]
    obtain ⟨r, hr, rfl⟩ := lp_all (f := law22_LanTakes_b0 a0) (s := (0, L [] [])) (fun j s => s = ((j : Int), L (sent (a0.take j) 0) (sent (a0.take j) 1))) (fun r => r = L (sent a0 0) (sent a0 1)) a0.length (by omega) (by simp [sent]) (by
      rintro j _ hj rfl
      exact ⟨_, takes_b0 hB h1 hj, rfl⟩) (by
      rintro _ rfl
      dsimp only [law22_LanTakes_b0]
      rw [if_neg (by omega), List.take_length]
      exact ⟨_, rfl, rfl⟩)
    rw [show ((0, (⟨(⟨[]⟩, ⟨[]⟩)⟩ : lan_Lan)) : Int × lan_Lan) = (0, L [] []) from rfl, hr, Option.bind_some]
    have n0 := sent_len a0 0
    have n1 := sent_len a0 1
    have sp := sent_sm hB 0
    have sq := sent_sm hB 1
    generalize sent a0 0 = p at *
    generalize sent a0 1 = q at *
    obtain ⟨x, hx⟩ : ∃ x, wk p q k = x := ⟨_, rfl⟩
    have hxl : x.length ≤ 200 := by rw [← hx]; unfold wk; split <;> omega
    have hyl : (wk q p k).length ≤ 200 := by unfold wk; split <;> omega
    have sx : Sm x := by rw [← hx]; unfold wk; split <;> assumption
    rw [← put2_self p q k, hx, many2 p q hk', Option.bind_some, many2o p q hk', Option.bind_some, if_neg (by omega), if_neg (by omega)]
    by_cases h0 : (x.length : Int) = 0
    · rw [if_pos h0]
      simp [h0]
    · rw [if_neg h0]
      have hp2 : p.length ≤ 2048 := by omega
      have hq2 : q.length ≤ 2048 := by omega
      obtain ⟨r, hr, rfl⟩ := takes_b1 hk' hp2 hq2 sp sq hxl sx
      rw [hr, Option.bind_some]
      simp only []
      rw [if_pos h0]
      have hw2 : IntKind.i64.wrap a2 = a2 := w64 (by omega) (by omega)
      obtain ⟨i, hi⟩ : ∃ i : Nat, (IntKind.i64.wrap a2).tmod (x.length : Int) = i := ⟨((IntKind.i64.wrap a2).tmod (x.length : Int)).toNat, by rw [hw2]; have := Int.tmod_nonneg (x.length : Int) h2.1; omega⟩
      have hix : i < x.length := by
        have := Int.tmod_lt_of_pos (IntKind.i64.wrap a2) (show (0 : Int) < x.length by omega)
        omega
      have hin : inB x i := by unfold inB; omega
      rw [hi, take_arr, arr2 hk' hp2 hq2 sp sq (by omega) sx, if_pos hin, Option.bind_some]
      have hel : (x.eraseIdx i).length = x.length - 1 := by rw [List.length_eraseIdx, if_pos hix]
      have hw : IntKind.i64.wrap ((x.length : Int) - 1) = ((x.length - 1 : Nat) : Int) := by rw [w64 (by omega) (by omega)]; omega
      simp only [if_true, Int.toNat_natCast]
      rw [if_pos (by omega), if_neg (by simp), many2 p q hk', Option.bind_some, hw, hel, if_neg (by simp), many2o p q hk', Option.bind_some, if_neg (by simp)]
      obtain ⟨r, hr, rfl⟩ := takes_b2 hk' hp2 hq2 sp sq hxl sx hi hix
      rw [hr, Option.bind_some]
      simp only []
      have sxe := sm_erase sx i
      have hxe : (x.eraseIdx i).length ≤ 2048 := by omega
      rw [take_arr, arr2 hk' hp2 hq2 sp sq hxe sxe, if_neg (by unfold inB; rw [hel]; omega), Option.bind_some]
      simp only []
      rw [copy_arr, arr2 hk' hp2 hq2 sp sq hxe sxe, if_neg (by unfold inB; omega), Option.bind_some]
      simp
  · rfl
end Go.Proofs.Ytflkagoglhckoaa
