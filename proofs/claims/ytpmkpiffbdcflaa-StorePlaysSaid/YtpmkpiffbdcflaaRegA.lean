/- Regions, plain: what stands at a place; the greatest number; the rows that are read. -/
import Derived.Test.YtpmkpiffbdcflaaDiskC
import Derived.Test.YtpmkpiffbdcflaaSecG
import Derived.Test.YtpmkpiffbdcflaaG0
set_option linter.unusedVariables false
set_option linter.unusedSimpArgs false
namespace Go.Proofs.Ytpmkpiffbdcflaa
open Go Go.RowKit
abbrev View := Int → List Int × Int
def sa (v : View) (a lim p : Int) : Option api_Sector :=
  if p < lim ∧ 0 ≤ a then (if (v (a + p)).2 = 0 ∧ (dec (v (a + p)).1).2 = true then some (dec (v (a + p)).1).1 else none) else none
abbrev Tup := Int × Int × Int × Int × List Int × Bool
def tup : Option api_Sector → Tup
  | none => (0, 0, 0, 0, [], false)
  | some s => (s.Gen, s.Place, s.Parts, s.Kept, s.Body, true)
theorem rdv_out {n : Nat} {d : disk_Disk} (W : WFd n d) {i : Int} (h : ¬ (0 ≤ i ∧ i < (n : Int))) : rdv d i = ([], 3) := by
  unfold rdv base baseS
  rw [fold_none fun p hp he => h (by have := W.at_ p hp; rw [← he]; exact this), if_neg (by rw [W.len]; exact h)]
theorem bytes_nil : Bytes [] := fun _ h => by cases h
theorem fold_bytes (i : Int) : ∀ (ps : List disk_write) (v : List Int × Int), Bytes v.1 → Bytes (ps.foldl (upd1 i) v).1
  | [], _, h => h
  | p :: ps, v, h => by
    rw [List.foldl_cons]
    refine fold_bytes i ps _ ?_
    unfold upd1
    by_cases c : p.at_ = i
    · rw [if_pos c]; exact p.b.b
    · rw [if_neg c]; exact h
theorem base_bytes (d : disk_Disk) (i : Int) : Bytes (base d i).1 := by
  unfold base baseS
  by_cases c : 0 ≤ i ∧ i < (d.sectors.length : Int)
  · rw [if_pos c]
    by_cases c2 : (mget d.torn i).isSome = true
    · rw [if_pos c2]; exact bytes_nil
    · rw [if_neg c2]; exact (d.sectors.getD i.toNat (Arr.zero 64)).b
  · rw [if_neg c]; exact bytes_nil
theorem rdv_bytes (d : disk_Disk) (i : Int) : Bytes (rdv d i).1 := fold_bytes i _ _ (base_bytes d i)
theorem at_eq {n : Nat} {d : disk_Disk} (W : WFd n d) (hn : n ≤ 4096) {a lim p : Int} (ha : a < 9223372036854775808) (hp : 0 ≤ p ∧ p ≤ 5000) :
    (((if p ≥ lim then some true else (if a < 0 then some true else ((disk_Disk_Sectors_f d).bind fun x62 => some ((decide (p ≥ (IntKind.i64.wrap (x62 - a)))))))) : Option (Bool)).bind fun x58 => (if x58 = true then some (0, 0, 0, 0, [], false) else ((disk_Disk_Read_f d (IntKind.i64.wrap (a + p))).bind fun (x65, x66) => (if x66 ≠ 0 then some (0, 0, 0, 0, [], false) else ((sector_Get_f x65).bind fun (x71, x72) => some (x71.Gen, x71.Place, x71.Parts, x71.Kept, x71.Body, x72)))) : Option Tup)) = some (tup (sa (rdv d) a lim p)) := by
  unfold sa
  by_cases c1 : p ≥ lim
  · rw [if_pos c1, if_neg (by omega)]; rfl
  · rw [if_neg c1]
    by_cases c2 : a < 0
    · rw [if_pos c2, if_neg (by omega)]; rfl
    · rw [if_neg c2, if_pos (by omega)]
      dsimp only [disk_Disk_Sectors_f, Option.bind_some]
      rw [W.len, w64 (x := (n : Int) - a) (by omega) (by omega)]
      by_cases c3 : p ≥ (n : Int) - a
      · rw [if_pos (decide_eq_true c3), rdv_out W (by omega), if_neg (by rintro ⟨h, _⟩; cases h)]; rfl
      · rw [if_neg (by rw [decide_eq_true_iff]; exact c3), w64 (by omega) (by omega), read_eq W]
        dsimp only [Option.bind_some]
        by_cases c4 : (rdv d (a + p)).2 = 0
        · rw [if_neg (not_not_intro c4), Get_run (rdv_bytes d _)]
          dsimp only [Option.bind_some]
          by_cases c5 : (dec (rdv d (a + p)).1).2 = true
          · rw [if_pos ⟨c4, c5⟩, c5]; rfl
          · rw [if_neg fun h => c5 h.2]
            have c6 : (dec (rdv d (a + p)).1).2 = false := by simpa using c5
            rw [c6, (dec_false c6).2]; rfl
        · rw [if_pos c4, if_neg fun h => c4 h.1]; rfl
/-! ### The greatest number -/
def gr (f : Nat → Option api_Sector) : Nat → Int
  | 0 => 0
  | k + 1 => match f k with
    | some s => max (gr f k) s.Gen
    | none => gr f k
theorem gr_more {f : Nat → Option api_Sector} {K : Nat} (h : ∀ k, K ≤ k → f k = none) : ∀ j, gr f (K + j) = gr f K
  | 0 => rfl
  | j + 1 => by
    show (match f (K + j) with | some s => max (gr f (K + j)) s.Gen | none => gr f (K + j)) = _
    rw [h (K + j) (by omega)]
    exact gr_more h j
theorem gr_eq {f : Nat → Option api_Sector} {K j : Nat} (h : ∀ k, K ≤ k → f k = none) (hj : K ≤ j) : gr f j = gr f K := by
  obtain ⟨i, rfl⟩ : ∃ i, j = K + i := ⟨j - K, by omega⟩
  exact gr_more h i
/-- The places from a on, of so many at most. -/
def fa (v : View) (a lim : Int) (p : Nat) : Option api_Sector := sa v a lim (p : Int)
theorem fa_end {n : Nat} {d : disk_Disk} (W : WFd n d) {a lim : Int} {k : Nat} (h : (n : Int) ≤ (k : Int) ∨ lim ≤ (k : Int)) : fa (rdv d) a lim k = none := by
  unfold fa sa
  by_cases c : (k : Int) < lim ∧ 0 ≤ a
  · rw [if_pos c, rdv_out W (by omega), if_neg (by rintro ⟨h, _⟩; cases h)]
  · rw [if_neg c]
theorem greatest_eq {n : Nat} {d : disk_Disk} (W : WFd n d) (hn : n ≤ 4096) {a lim : Int} (ha : a < 9223372036854775808) : region_Greatest_f d a lim = some (gr (fa (rdv d) a lim) 5000) := by
  unfold region_Greatest_f
  dsimp only [disk_Disk_Sectors_f, Option.bind_some]
  rw [W.len]
  obtain ⟨N, hN⟩ : ∃ N : Nat, (N : Int) = max (min lim (n : Int)) 0 := ⟨(max (min lim (n : Int)) 0).toNat, by omega⟩
  have key : ∃ r, lp (region_Greatest_b0 d a lim (n : Int)) (0, 0) = some r ∧ r = gr (fa (rdv d) a lim) N := by
    refine lp_all (fun k (s : Int × Int) => s = (gr (fa (rdv d) a lim) k, (k : Int))) _ N (by omega) rfl ?_ ?_
    · rintro k s hk rfl
      refine ⟨(gr (fa (rdv d) a lim) (k + 1), ((k + 1 : Nat) : Int)), ?_, rfl⟩
      unfold region_Greatest_b0
      dsimp only
      rw [if_pos (by omega)]
      have e := at_eq W hn (a := a) (lim := lim) (p := (k : Int)) ha (by omega)
      refine Option.bind_eq_some_iff.2 ⟨_, e, ?_⟩
      show _ = some (Sum.inl (gr (fa (rdv d) a lim) (k + 1), ((k + 1 : Nat) : Int)))
      rw [show gr (fa (rdv d) a lim) (k + 1) = match fa (rdv d) a lim k with | some s => max (gr (fa (rdv d) a lim) k) s.Gen | none => gr (fa (rdv d) a lim) k from rfl]
      rw [← w64n (n := k) (by omega)]
      show _ = some (Sum.inl ((match sa (rdv d) a lim (k : Int) with | some s => max (gr (fa (rdv d) a lim) k) s.Gen | none => gr (fa (rdv d) a lim) k), IntKind.i64.wrap ((k : Int) + 1)))
      cases sa (rdv d) a lim (k : Int) with
      | none => rfl
      | some s => rfl
    · rintro s rfl
      refine ⟨gr (fa (rdv d) a lim) N, ?_, rfl⟩
      unfold region_Greatest_b0
      dsimp only
      rw [if_neg (by omega)]
  obtain ⟨r, h1, rfl⟩ := key
  rw [h1]
  dsimp only [Option.bind_some]
  rw [gr_eq (K := N) (j := 5000) (fun k hk => fa_end W (by omega)) (by omega)]
end Go.Proofs.Ytpmkpiffbdcflaa
