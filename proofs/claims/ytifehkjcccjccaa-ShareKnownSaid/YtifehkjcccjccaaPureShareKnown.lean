/- A row that both know has the whole and noughts for its parts, which join to it, and may be added to any shares: for every seed, either party and all rows that Go's memory can hold. -/
import Derived.Test.YtifehkjcccjccaaShareBase
import Derived.Test.YtifehkjcccjccaaPShx21
set_option linter.unusedSimpArgs false
namespace Go.Proofs.Ytifehkjcccjccaa.Pure
open Go Go.RowKit Go.Proofs.Ytifehkjcccjccaa.PSh Go.Proofs.YtifehkjcccjccaaW.PrintWords Go.Proofs.YtifehkjcccjccaaW.PrintLast Go.Proofs.YtifehkjcccjccaaW.PrintMore Go.Proofs.Ytifehkjcccjccaa.U64 Go.Proofs.Ytifehkjcccjccaa.ShareBase
theorem prt_length (who : Int) (x : List W64) : (prt who x).length = x.length := by
  unfold prt
  split
  · rfl
  · rw [List.length_replicate]
theorem known_j0 (s : W64) (x y : List W64) (who : Int) (hw : who ≠ 0) (n : Nat) (hn : n ≤ 4096) (h1 : n ≤ x.length) (h2 : n ≤ y.length) : Ev (fun k => symbolonlaw10_ShareKnown.j0 k (un s) (uns x) (uns y) who true (n : Int) false) true := by
  refine ev_succ ?_
  have c0 : (0 : Int) ≤ (n : Int) := by omega
  have c1 : (n : Int) ≤ ((uns x).length : Int) := by rw [uns_length]; omega
  have c2 : (n : Int) ≤ ((uns y).length : Int) := by rw [uns_length]; omega
  simp only [symbolonlaw10_ShareKnown.j0, Bool.false_eq_true, if_false, if_true, if_pos c0, if_pos c1, if_pos c2, Int.toNat_natCast, uns_take]
  obtain ⟨p, hp⟩ : ∃ p, p = x.take n := ⟨_, rfl⟩
  obtain ⟨q, hq⟩ : ∃ q, q = y.take n := ⟨_, rfl⟩
  rw [← hp, ← hq]
  have lp : p.length = n := by rw [hp, List.length_take]; omega
  have lq : q.length = n := by rw [hq, List.length_take]; omega
  have sp := split_ev s (x := p) (by omega)
  rw [lp] at sp
  obtain ⟨m, hm⟩ : ∃ m, m = ms s n := ⟨_, rfl⟩
  have lm : m.length = n := by rw [hm, ms_length]
  rw [← hm] at sp
  have zl : ∀ (g : W64 → W64 → W64) {a b : List W64}, a.length = n → b.length = n → (zw g a b).length = n := fun g a b h1 h2 => by rw [zw_length, h1, h2, Nat.min_self]
  have ff : ∀ {a : List W64}, a.length = n → fits a := fun h => fits_le h hn
  have q0 := part_ev 0 (x := q) (ff lq)
  have q1 := part_ev who (x := q) (ff lq)
  rw [show prt 0 q = q from if_pos rfl] at q0
  rw [show prt who q = List.replicate q.length 0#64 from if_neg hw, lq] at q1
  obtain ⟨o, ho⟩ : ∃ o, o = List.replicate n 0#64 := ⟨_, rfl⟩
  rw [← ho] at q1
  have lo : o.length = n := by rw [ho, List.length_replicate]
  have e1 : zw (· + ·) q o = q := by
    have := add_noughts q
    rw [lq, ← ho] at this
    exact this
  have l1 := zl (· - ·) lp lm
  have e2 : zw (· + ·) (zw (· + ·) m q) (zw (· + ·) (zw (· - ·) p m) o) = zw (· + ·) p q := by
    have h3 : zw (· + ·) (zw (· - ·) p m) o = zw (· - ·) p m := by
      have := add_noughts (zw (· - ·) p m)
      rw [l1, ← ho] at this
      exact this
    rw [h3]
    refine List.ext_getElem (by rw [zl _ (zl _ lm lq) l1, zl _ lp lq]) (fun i h1 h2 => ?_)
    rw [zw_get, zw_get, zw_get, zw_get]
    exact law_known _ _ _
  refine Ev.bind sp (Ev.bind q0 (Ev.bind q1 (Ev.bind (join_ev (ff lq) (ff lo)) (Ev.bind (same_eq e1 (ff (zl _ lq lo))) ?_))))
  simp only [if_true]
  refine Ev.bind (ref_add_ev (ff lm)) (Ev.bind (ref_add_ev (ff l1)) (Ev.bind (join_ev (ff (zl _ lm lq)) (ff (zl _ l1 lo))) (Ev.bind (ref_add_ev (ff lp)) (Ev.bind (same_eq e2 (ff (zl _ (zl _ lm lq) (zl _ l1 lo)))) ?_))))
  simp only [if_true]
  exact Ev.bind (same_eq rfl (ff lq)) (Ev.now _)
theorem known_end (a : Int) (x y : List Int) (who : Int) (n : Int) : Ev (fun k => symbolonlaw10_ShareKnown.j0 k a x y who true n true) true := by
  refine ev_succ ?_
  simp only [symbolonlaw10_ShareKnown.j0, if_true]
  exact Ev.now _
theorem ShareKnown : symbolonlaw10_ShareKnown.Pure := by
  intro a0 l1 l2 a3 w0 _ h1 w1 _ h2 w2 _
  obtain ⟨s, rfl⟩ := un_of w0
  obtain ⟨x, ex⟩ := uns_of w1
  obtain ⟨y, ey⟩ := uns_of w2
  have fx := fits_of h1 ex
  have fy := fits_of h2 ey
  subst ex ey
  apply Ev.rounds
  unfold symbolonlaw10_ShareKnown.f
  rw [uns_length, uns_length, mn_nat]
  refine Ev.bind head_ev ?_
  by_cases c : (((min x.length y.length : Nat) : Int) > 4096)
  · simp only [if_pos c]
    exact known_end _ _ _ _ _
  · simp only [if_neg c]
    by_cases hw : a3 = 0
    · subst hw
      exact known_end _ _ _ _ _
    · rw [show (a3 == 0) = false from by simpa using hw]
      exact known_j0 s x y a3 hw _ (by omega) (by omega) (by omega)
end Go.Proofs.Ytifehkjcccjccaa.Pure
