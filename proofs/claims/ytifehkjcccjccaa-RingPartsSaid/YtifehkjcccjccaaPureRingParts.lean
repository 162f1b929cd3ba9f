/- The sum of a row is that of its parts, wherever it is cut, so is Dot, and Scale by 2 is a row and itself: for all rows that Go's memory can hold, and every cut. -/
import Derived.Test.YtifehkjcccjccaaRingAlg
import Derived.Test.YtifehkjcccjccaaPRgx23
set_option linter.unusedSimpArgs false
namespace Go.Proofs.Ytifehkjcccjccaa.Pure
open Go Go.RowKit Go.Proofs.Ytifehkjcccjccaa.PRg Go.Proofs.YtifehkjcccjccaaW.PrintWords Go.Proofs.YtifehkjcccjccaaW.PrintLast Go.Proofs.YtifehkjcccjccaaW.PrintMore Go.Proofs.Ytifehkjcccjccaa.U64 Go.Proofs.Ytifehkjcccjccaa.RingBase
theorem RingParts : symbolonlaw01_RingParts.Pure := by
  intro l0 l1 a2 _ h0 w0 _ h1 w1 h2
  obtain ⟨a, ea⟩ := uns_of w0
  obtain ⟨b, eb⟩ := uns_of w1
  have fa := fits_of h0 ea
  have fb := fits_of h1 eb
  subst ea eb
  simp [Lit.wf, IntKind.min, IntKind.max, IntKind.signed, IntKind.bits] at h2
  obtain ⟨y, rfl⟩ : ∃ y : Nat, a2 = (y : Int) := ⟨a2.toNat, by omega⟩
  apply Ev.rounds
  unfold symbolonlaw01_RingParts.f
  rw [uns_length, uns_length, mn_nat]
  obtain ⟨n, hn⟩ : ∃ n, min a.length b.length = n := ⟨_, rfl⟩
  have hlt : n < 4611686018427387904 := by unfold fits at fa; omega
  rw [hn, w64_succ hlt]
  have e3 : Int.tmod (wrap64 (y : Int)) ((n + 1 : Nat) : Int) = ((y % (n + 1) : Nat) : Int) := by
    rw [show wrap64 (y : Int) = (y : Int) by unfold wrap64; omega]
    exact (Int.ofNat_tmod y (n + 1)).symm
  obtain ⟨c, hc⟩ : ∃ c, y % (n + 1) = c := ⟨_, rfl⟩
  have hcn : c ≤ n := by have := Nat.mod_lt y (show 0 < n + 1 by omega); omega
  rw [e3, hc]
  refine Ev.bind head_ev ?_
  by_cases hbig : ((n : Nat) : Int) > 3000
  · simp only [if_pos hbig]
    exact Ev.now _
  have c1 : (0 : Int) ≤ ((n : Nat) : Int) := by omega
  have c2 : ((n : Nat) : Int) ≤ (a.length : Int) := by omega
  have c3 : ((n : Nat) : Int) ≤ (b.length : Int) := by omega
  have c4 : ¬ ((n + 1 : Nat) : Int) = 0 := by omega
  have c5 : (0 : Int) ≤ ((c : Nat) : Int) := by omega
  have ha : (a.take n).length = n := by rw [List.length_take]; omega
  have hb : (b.take n).length = n := by rw [List.length_take]; omega
  simp only [if_neg hbig, if_pos c1, if_pos c2, if_pos c3, if_neg c4, if_true, Int.toNat_natCast, uns_take, uns_drop, uns_length, ha, hb]
  have fa' := fits_take n fa
  have fb' := fits_take n fb
  generalize a.take n = p at fa' ha ⊢
  generalize b.take n = q at fb' hb ⊢
  have c6 : ((c : Nat) : Int) ≤ (n : Int) := by omega
  refine Ev.bind (sum_ev fa') ?_
  simp only [if_pos c5, if_pos c6]
  refine Ev.bind (sum_ev (fits_take c fa')) (Ev.bind (sum_ev (fits_drop c fa')) ?_)
  rw [un_add, ← sm_cut]
  simp only [if_true]
  refine Ev.bind (dot_ev fa' fb') (Ev.bind (dot_ev (fits_take c fa') (fits_take c fb')) (Ev.bind (dot_ev (fits_drop c fa') (fits_drop c fb')) ?_))
  rw [un_add, ← dt_cut]
  simp only [if_true]
  refine Ev.bind (scale_ev 2#64 fa') (Ev.bind (add_ev fa' fa') (Ev.bind (same_eq (sc_two p) (fits_sc fa')) ?_))
  simp only [if_true]
  refine Ev.bind (scale_ev 0#64 fa') (Ev.bind (sub_ev fb' fb') (Ev.bind (same_eq ?_ (fits_sc fa')) ?_))
  · rw [sc_zero, zw_sub_self, ha, hb]
  exact Ev.now _
end Go.Proofs.Ytifehkjcccjccaa.Pure
