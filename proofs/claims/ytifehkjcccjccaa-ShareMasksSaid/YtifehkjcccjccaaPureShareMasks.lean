/- The masks are the seed's own, whatever they hide, and the difference of the masked is the difference of the rows: for every seed and all rows that Go's memory can hold. -/
import Derived.Test.YtifehkjcccjccaaShareBase
import Derived.Test.YtifehkjcccjccaaPShx18
set_option linter.unusedSimpArgs false
namespace Go.Proofs.Ytifehkjcccjccaa.Pure
open Go Go.RowKit Go.Proofs.Ytifehkjcccjccaa.PSh Go.Proofs.YtifehkjcccjccaaW.PrintWords Go.Proofs.YtifehkjcccjccaaW.PrintLast Go.Proofs.YtifehkjcccjccaaW.PrintMore Go.Proofs.Ytifehkjcccjccaa.U64 Go.Proofs.Ytifehkjcccjccaa.ShareBase
theorem ShareMasks : symbolonlaw10_ShareMasks.Pure := by
  intro a0 l1 l2 w0 _ h1 w1 _ h2 w2
  obtain ⟨s, rfl⟩ := un_of w0
  obtain ⟨x, ex⟩ := uns_of w1
  obtain ⟨y, ey⟩ := uns_of w2
  have fx := fits_of h1 ex
  have fy := fits_of h2 ey
  subst ex ey
  apply Ev.rounds
  unfold symbolonlaw10_ShareMasks.f
  rw [uns_length, uns_length, mn_nat]
  refine Ev.bind head_ev ?_
  by_cases c : (((min x.length y.length : Nat) : Int) > 4096)
  · simp only [if_pos c]
    exact Ev.now _
  · simp only [if_neg c]
    have c0 : (0 : Int) ≤ ((min x.length y.length : Nat) : Int) := by omega
    have c1 : ((min x.length y.length : Nat) : Int) ≤ (x.length : Int) := by omega
    have c2 : ((min x.length y.length : Nat) : Int) ≤ (y.length : Int) := by omega
    simp only [if_pos c0, if_pos c1, if_pos c2, Int.toNat_natCast, uns_take, if_true]
    obtain ⟨n, hn⟩ : ∃ n, n = min x.length y.length := ⟨_, rfl⟩
    rw [← hn] at c c0 c1 c2 ⊢
    obtain ⟨p, hp⟩ : ∃ p, p = x.take n := ⟨_, rfl⟩
    obtain ⟨q, hq⟩ : ∃ q, q = y.take n := ⟨_, rfl⟩
    rw [← hp, ← hq]
    have lp : p.length = n := by rw [hp, List.length_take]; omega
    have lq : q.length = n := by rw [hq, List.length_take]; omega
    have hnn : n ≤ 4096 := by omega
    have sp := split_ev s (x := p) (by omega)
    have sq := split_ev s (x := q) (by omega)
    rw [lp] at sp
    rw [lq] at sq
    have lm := ms_length s n
    refine Ev.bind sp (Ev.bind sq (Ev.bind (same_eq rfl (fits_le lm hnn)) ?_))
    simp only [if_true]
    have l1 : (zw (· - ·) p (ms s n)).length = n := by rw [zw_length, lp, lm, Nat.min_self]
    have l2 : (zw (· - ·) q (ms s n)).length = n := by rw [zw_length, lq, lm, Nat.min_self]
    have l3 : (zw (· - ·) (zw (· - ·) p (ms s n)) (zw (· - ·) q (ms s n))).length = n := by rw [zw_length, l1, l2, Nat.min_self]
    have e : zw (· - ·) (zw (· - ·) p (ms s n)) (zw (· - ·) q (ms s n)) = zw (· - ·) p q := by
      refine List.ext_getElem (by rw [l3, zw_length, lp, lq, Nat.min_self]) (fun i h1 h2 => ?_)
      rw [zw_get, zw_get, zw_get, zw_get]
      exact sub_sub_sub _ _ _
    exact Ev.bind (ref_sub_ev (fits_le l1 hnn)) (Ev.bind (ref_sub_ev (fits_le lp hnn)) (Ev.bind (same_eq e (fits_le l3 hnn)) (Ev.now _)))
end Go.Proofs.Ytifehkjcccjccaa.Pure
