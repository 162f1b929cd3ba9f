/- Shares of a sum, of a multiple and of a difference are the sums, multiples and differences of the shares: for every seed, every number and all rows that Go's memory can hold. -/
import Derived.Test.YtifehkjcccjccaaShareBase
import Derived.Test.YtifehkjcccjccaaPShx20
set_option linter.unusedSimpArgs false
namespace Go.Proofs.Ytifehkjcccjccaa.Pure
open Go Go.RowKit Go.Proofs.Ytifehkjcccjccaa.PSh Go.Proofs.YtifehkjcccjccaaW.PrintWords Go.Proofs.YtifehkjcccjccaaW.PrintLast Go.Proofs.YtifehkjcccjccaaW.PrintMore Go.Proofs.Ytifehkjcccjccaa.U64 Go.Proofs.Ytifehkjcccjccaa.ShareBase
theorem ShareSums : symbolonlaw10_ShareSums.Pure := by
  intro a0 a1 l2 l3 a4 w0 w1 _ h2 w2 _ h3 w3 w4
  obtain ⟨s, rfl⟩ := un_of w0
  obtain ⟨t, rfl⟩ := un_of w1
  obtain ⟨z, rfl⟩ := un_of w4
  obtain ⟨x, ex⟩ := uns_of w2
  obtain ⟨y, ey⟩ := uns_of w3
  have fx := fits_of h2 ex
  have fy := fits_of h3 ey
  subst ex ey
  apply Ev.rounds
  unfold symbolonlaw10_ShareSums.f
  rw [uns_length, uns_length, mn_nat]
  refine Ev.bind head_ev ?_
  by_cases c : (((min x.length y.length : Nat) : Int) > 4096)
  · simp only [if_pos c]
    exact Ev.now _
  · simp only [if_neg c]
    have c0 : (0 : Int) ≤ ((min x.length y.length : Nat) : Int) := by omega
    have c1 : ((min x.length y.length : Nat) : Int) ≤ (x.length : Int) := by omega
    have c2 : ((min x.length y.length : Nat) : Int) ≤ (y.length : Int) := by omega
    simp only [if_pos c0, if_pos c1, if_pos c2, Int.toNat_natCast, uns_take, if_true]
    obtain ⟨n, hn⟩ : ∃ n, n = min x.length y.length := ⟨_, rfl⟩
    rw [← hn] at c c0 c1 c2 ⊢
    obtain ⟨p, hp⟩ : ∃ p, p = x.take n := ⟨_, rfl⟩
    obtain ⟨q, hq⟩ : ∃ q, q = y.take n := ⟨_, rfl⟩
    rw [← hp, ← hq]
    have lp : p.length = n := by rw [hp, List.length_take]; omega
    have lq : q.length = n := by rw [hq, List.length_take]; omega
    have hnn : n ≤ 4096 := by omega
    have sp := split_ev s (x := p) (by omega)
    have sq := split_ev t (x := q) (by omega)
    rw [lp] at sp
    rw [lq] at sq
    obtain ⟨m, hm⟩ : ∃ m, m = ms s n := ⟨_, rfl⟩
    obtain ⟨r, hr⟩ : ∃ r, r = ms t n := ⟨_, rfl⟩
    have lm : m.length = n := by rw [hm, ms_length]
    have lr : r.length = n := by rw [hr, ms_length]
    rw [← hm] at sp
    rw [← hr] at sq
    have zl : ∀ (g : W64 → W64 → W64) {a b : List W64}, a.length = n → b.length = n → (zw g a b).length = n := fun g a b h1 h2 => by rw [zw_length, h1, h2, Nat.min_self]
    have sl : ∀ (g : W64) {a : List W64}, a.length = n → (sc g a).length = n := fun g a h1 => by unfold sc; rw [List.length_map, h1]
    have ff : ∀ {a : List W64}, a.length = n → fits a := fun h => fits_le h hnn
    have l1 := zl (· - ·) lp lm
    have l2 := zl (· - ·) lq lr
    refine Ev.bind sp (Ev.bind sq ?_)
    have e1 : zw (· + ·) (zw (· + ·) m r) (zw (· + ·) (zw (· - ·) p m) (zw (· - ·) q r)) = zw (· + ·) p q := by
      refine List.ext_getElem (by rw [zl _ (zl _ lm lr) (zl _ l1 l2), zl _ lp lq]) (fun i h1 h2 => ?_)
      rw [zw_get, zw_get, zw_get, zw_get, zw_get, zw_get]
      exact law_add _ _ _ _
    have e2 : zw (· + ·) (sc z m) (sc z (zw (· - ·) p m)) = sc z p := by
      refine List.ext_getElem (by rw [zl _ (sl _ lm) (sl _ l1), sl _ lp]) (fun i h1 h2 => ?_)
      rw [zw_get, sc_get, sc_get, sc_get, zw_get]
      exact law_scale _ _ _
    have e3 : zw (· + ·) (zw (· - ·) m r) (zw (· - ·) (zw (· - ·) p m) (zw (· - ·) q r)) = zw (· - ·) p q := by
      refine List.ext_getElem (by rw [zl _ (zl _ lm lr) (zl _ l1 l2), zl _ lp lq]) (fun i h1 h2 => ?_)
      rw [zw_get, zw_get, zw_get, zw_get, zw_get, zw_get]
      exact law_sub _ _ _ _
    refine Ev.bind (ref_add_ev (ff lm)) (Ev.bind (ref_add_ev (ff l1)) (Ev.bind (join_ev (ff (zl _ lm lr)) (ff (zl _ l1 l2))) (Ev.bind (ref_add_ev (ff lp)) (Ev.bind (same_eq e1 (ff (zl _ (zl _ lm lr) (zl _ l1 l2)))) ?_))))
    simp only [if_true]
    refine Ev.bind (ref_scale_ev z (ff lm)) (Ev.bind (ref_scale_ev z (ff l1)) (Ev.bind (join_ev (ff (sl _ lm)) (ff (sl _ l1))) (Ev.bind (ref_scale_ev z (ff lp)) (Ev.bind (same_eq e2 (ff (zl _ (sl _ lm) (sl _ l1)))) ?_))))
    simp only [if_true]
    exact Ev.bind (ref_sub_ev (ff lm)) (Ev.bind (ref_sub_ev (ff l1)) (Ev.bind (join_ev (ff (zl _ lm lr)) (ff (zl _ l1 l2))) (Ev.bind (ref_sub_ev (ff lp)) (Ev.bind (same_eq e3 (ff (zl _ (zl _ lm lr) (zl _ l1 l2)))) (Ev.now _)))))
end Go.Proofs.Ytifehkjcccjccaa.Pure
