/- What is added may be taken away again, a row less itself is noughts, and as many numbers as the shorter row has come out: for all rows that Go's memory can hold. -/
import Derived.Test.YtifehkjcccjccaaRingAlg
import Derived.Test.YtifehkjcccjccaaPRgx21
set_option linter.unusedSimpArgs false
namespace Go.Proofs.Ytifehkjcccjccaa.Pure
open Go Go.RowKit Go.Proofs.Ytifehkjcccjccaa.PRg Go.Proofs.YtifehkjcccjccaaW.PrintWords Go.Proofs.YtifehkjcccjccaaW.PrintLast Go.Proofs.YtifehkjcccjccaaW.PrintMore Go.Proofs.Ytifehkjcccjccaa.U64 Go.Proofs.Ytifehkjcccjccaa.RingBase
theorem fits_nil : fits [] := by unfold fits; simp
theorem back_l0 (a b : List W64) (fa : fits a) (fb : fits b) (d : Nat) : ∀ (j : Nat), j + d = a.length →
    Ev (fun k => symbolonlaw01_RingBack.l0 k (uns a) (uns b) true ((min a.length b.length : Nat) : Int) (uns (zw (· - ·) a a)) (j : Int)) true := by
  have hl : (uns (zw (· - ·) a a)).length = a.length := by rw [uns_length, zw_length, Nat.min_self]
  have hlt : a.length < 4611686018427387904 := by unfold fits at fa; omega
  induction d with
  | zero =>
    intro j hj
    refine Ev.step (f := fun k => (ring_Add.f k (uns a) (uns b)).bind fun t1 => (ring_Sub.f k t1 (uns b)).bind fun t2 => (symbolonref01_Same.f k t2 (uns (a.take (min a.length b.length)))).bind fun t3 => if t3 = true then ((ring_Sub.f k (uns a) (uns b)).bind fun t4 => (ring_Add.f k t4 (uns b)).bind fun t5 => (symbolonref01_Same.f k t5 (uns (a.take (min a.length b.length)))).bind fun t6 => if t6 = true then (if ((uns (zw (· - ·) a a)).length : Int) = ((uns a).length : Int) then ((ring_Mul.f k (uns a) (uns b)).bind fun t7 => if (t7.length : Int) = ((min a.length b.length : Nat) : Int) then ((ring_Add.f k (uns a) ([] : List Int)).bind fun t8 => some ((t8.length : Int) == 0)) else none) else none) else none) else none) ?_ ?_
    · intro k
      simp only [symbolonlaw01_RingBack.l0]
      have c1 : (0 : Int) ≤ ((min a.length b.length : Nat) : Int) := by omega
      have c2 : ((min a.length b.length : Nat) : Int) ≤ ((uns a).length : Int) := by rw [uns_length]; omega
      rw [if_neg (by rw [hl]; omega)]
      simp only [if_true, if_pos c1, if_pos c2, Int.toNat_natCast, uns_take]
    · refine Ev.bind (add_ev fa fb) (Ev.bind (sub_ev (fits_zw fa) fb) (Ev.bind (same_eq (zw_undo _ _ add_sub a b) (fits_zw (fits_zw fa))) ?_))
      simp only [if_true]
      refine Ev.bind (sub_ev fa fb) (Ev.bind (add_ev (fits_zw fa) fb) (Ev.bind (same_eq (zw_undo _ _ sub_add a b) (fits_zw (fits_zw fa))) ?_))
      have h1 : ((uns (zw (· - ·) a a)).length : Int) = ((uns a).length : Int) := by rw [hl, uns_length]
      simp only [if_true, if_pos h1]
      refine Ev.bind (mul_ev fa fb) ?_
      have h2 : ((uns (zw (· * ·) a b)).length : Int) = ((min a.length b.length : Nat) : Int) := by rw [uns_length, zw_length]
      simp only [if_pos h2]
      refine Ev.bind (add_ev (b := []) fa fits_nil) ?_
      rw [zw_nil_right]
      exact Ev.now _
  | succ d ih =>
    intro j hj
    refine Ev.step (f := fun k => symbolonlaw01_RingBack.l0 k (uns a) (uns b) true ((min a.length b.length : Nat) : Int) (uns (zw (· - ·) a a)) ((j + 1 : Nat) : Int)) ?_ (ih (j + 1) (by omega))
    intro k
    have hj2 : j < (zw (· - ·) a a).length := by rw [zw_length, Nat.min_self]; omega
    have hz : rd (uns (zw (· - ·) a a)) (j : Int) = 0 := by
      rw [rd_uns _ j hj2]
      have : (zw (· - ·) a a)[j] = 0#64 := by
        have h3 := zw_sub_self a
        simp only [h3, List.getElem_replicate]
      rw [this]
      rfl
    simp only [symbolonlaw01_RingBack.l0]
    rw [if_pos (by rw [hl]; omega), if_pos (by omega), if_pos hz, w64_succ (by omega)]
theorem RingBack : symbolonlaw01_RingBack.Pure := by
  intro l0 l1 _ h0 w0 _ h1 w1
  obtain ⟨a, ea⟩ := uns_of w0
  obtain ⟨b, eb⟩ := uns_of w1
  have fa := fits_of h0 ea
  have fb := fits_of h1 eb
  subst ea eb
  apply Ev.rounds
  unfold symbolonlaw01_RingBack.f
  obtain ⟨g, hg⟩ := great_at (uns a) (uns b)
  rw [hg, uns_length, uns_length, mn_nat]
  refine Ev.bind head_ev ?_
  simp only [Option.bind_some]
  cases g with
  | true => simp only [if_true]; exact Ev.now _
  | false =>
    simp only [Bool.false_eq_true, if_false]
    refine Ev.bind (sub_ev fa fa) ?_
    exact back_l0 a b fa fb a.length 0 (by omega)
end Go.Proofs.Ytifehkjcccjccaa.Pure
