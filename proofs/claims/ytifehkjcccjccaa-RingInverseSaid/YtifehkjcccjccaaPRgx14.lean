/- The Go functions that this seat's statements reach: each with the plain function that it computes, for every input at which that function answers. Written by a program of the session (wip/tools/hprint.py) over the kit's printer; contracts that the printer does not take are proved by hand among them. -/
import Derived.Test.YtifehkjcccjccaaPRgx0
namespace Go.Proofs.Ytifehkjcccjccaa.PRg
open Go.RowKit Go.Proofs.YtifehkjcccjccaaW.PrintWords Go.Proofs.YtifehkjcccjccaaW.PrintLast Go.Proofs.YtifehkjcccjccaaW.PrintMore
attribute [local go_sem] max2_int min2_int max_two min_two max_three min_three max_four min_four   -- for this text's walks alone
set_option linter.unusedVariables false
set_option linter.unusedSimpArgs false

/-! ### symbolonref01_Inverse: function 19 -/
def symbolonref01_Inverse.l0 : Nat → Int → Int → Int → Int → Option (Int × Bool)
  | 0, _, _, _, _ => none
  | k + 1, x0, x4, x5, x6 => if x6 < 64 then (if x6 = 0 then (if x5 = 0 then (none) else (if (Int.tmod (IntKind.u64.wrap (Int.tdiv (IntKind.u64.wrap (x0 * x4)) x5)) 2) = 1 then (symbolonref01_Inverse.l0 k x0 x4 (IntKind.u64.wrap (x5 * 2)) (wrap64 (x6 + 1))) else (symbolonref01_Inverse.l0 k x0 (IntKind.u64.wrap (x4 + x5)) (IntKind.u64.wrap (x5 * 2)) (wrap64 (x6 + 1))))) else (if x5 = 0 then (none) else (if (Int.tmod (IntKind.u64.wrap (Int.tdiv (IntKind.u64.wrap (x0 * x4)) x5)) 2) = 0 then (symbolonref01_Inverse.l0 k x0 x4 (IntKind.u64.wrap (x5 * 2)) (wrap64 (x6 + 1))) else (symbolonref01_Inverse.l0 k x0 (IntKind.u64.wrap (x4 + x5)) (IntKind.u64.wrap (x5 * 2)) (wrap64 (x6 + 1)))))) else (some (x4, true))
def symbolonref01_Inverse.f (k : Nat) (a0 : Int) : Option (Int × Bool) := if (Int.tmod a0 2) = 0 then (some (0, false)) else (symbolonref01_Inverse.l0 k a0 0 1 0)
theorem symbolonref01_Inverse.mono_l : ∀ k, (∀ y0 y1 y2 y3, LeO (symbolonref01_Inverse.l0 k y0 y1 y2 y3) (symbolonref01_Inverse.l0 (k + 1) y0 y1 y2 y3))
  | 0 => fun _ _ _ _ r h => by simp [symbolonref01_Inverse.l0] at h
  | k + 1 => by
    have ih0 := symbolonref01_Inverse.mono_l k
    · intro y0 y1 y2 y3
      unfold symbolonref01_Inverse.l0
      repeat' first
      | (with_reducible exact ih0 _ _ _ _)
      | (with_reducible exact LeO.refl _)
      | (with_reducible exact LeO.none _)
      | (with_reducible refine LeO.ite ?_ ?_)
      | (with_reducible refine LeO.bind ?_ (fun _ => ?_))
      | exact ih0 _ _ _ _
      | exact LeO.none _
      | refine LeO.ite ?_ ?_
      | refine LeO.bind ?_ (fun _ => ?_)
theorem symbolonref01_Inverse.mono : ∀ a0 k, LeO (symbolonref01_Inverse.f k a0) (symbolonref01_Inverse.f (k + 1) a0) := by
  intro a0 k
  have ih0 := symbolonref01_Inverse.mono_l k
  unfold symbolonref01_Inverse.f
  repeat' first
      | (with_reducible exact ih0 _ _ _ _)
      | (with_reducible exact LeO.refl _)
      | (with_reducible exact LeO.none _)
      | (with_reducible refine LeO.ite ?_ ?_)
      | (with_reducible refine LeO.bind ?_ (fun _ => ?_))
      | exact ih0 _ _ _ _
      | exact LeO.none _
      | refine LeO.ite ?_ ?_
      | refine LeO.bind ?_ (fun _ => ?_)
set_option maxHeartbeats 8000000 in
set_option maxRecDepth 100000 in
theorem symbolonref01_Inverse.calls (k : Nat) (a0 : Int) (r1 : Int) (r2 : Bool) (w : World) (h : symbolonref01_Inverse.f k a0 = some (r1, r2)) :
    Calls Try.prog 19 #[.int .u64 a0] w fun e w' => e = .returned (.tuple #[.int .u64 r1, .bool r2]) ∧ Drawn0 w w' := by
  have H : (if (Int.tmod a0 2) = 0 then (some (0, false)) else (symbolonref01_Inverse.l0 k a0 0 1 0)) = some (r1, r2) := h
  clear h
  by_cases c2 : (Int.tmod a0 2) = 0
  · rw [if_pos c2] at H
    have c2b0 : ((Int.tmod a0 2) == 0) = true := beq_iff_eq.mpr c2
    have c2b1 : ((Int.tmod a0 2) != 0) = false := bne_eq_false_iff_eq.mpr c2
    clear c2
    simp only [Option.some.injEq, Prod.mk.injEq] at H
    obtain ⟨rfl, rfl⟩ := H
    go_enter Try.func19, Try.ntmps19
    go_wp2
    go_ret2
    exact ⟨by first | rfl | (simp; done) | (simp [*]; done), by repeat (first | exact Drawn0.refl _ | apply Drawn0.step)⟩
  · rw [if_neg c2] at H
    have c2b0 : ((Int.tmod a0 2) == 0) = false := beq_eq_false_iff_ne.mpr c2
    have c2b1 : ((Int.tmod a0 2) != 0) = true := bne_iff_ne.mpr c2
    have H' := Aside0.mk H
    clear H
    go_enter Try.func19, Try.ntmps19
    go_wp2
    go_loopg [4, 5, 6] k (fun kq v4 v5 v6 w' => ∃ (x4_1 : Int) (x5_1 : Int) (x6_1 : Int), v4 = .int .u64 x4_1 ∧ v5 = .int .u64 x5_1 ∧ v6 = .int .i64 x6_1 ∧ Aside0 (symbolonref01_Inverse.l0 kq a0 x4_1 x5_1 x6_1 = some (r1, r2)) ∧ Aside0 (kq ≤ k) ∧ Drawn0 w w')
    case atStart => exact ⟨(0), (1), (0), (by first | rfl | (simp; done) | (simp [*]; done)), (by first | rfl | (simp; done) | (simp [*]; done)), (by first | rfl | (simp; done) | (simp [*]; done)), H', ⟨Nat.le_refl _⟩, by repeat (first | exact Drawn0.refl _ | apply Drawn0.step)⟩
    case round =>
      clear H'
      try clear c1
      try clear c2
      try clear c2b0
      try clear c2b1
      try clear p2
      obtain ⟨x4_1, x5_1, x6_1, rfl, rfl, rfl, HA, HK1, ⟨m1, rfl⟩⟩ := hrel
      cases gk with
      | zero => exact absurd HA.out (by simp [symbolonref01_Inverse.l0])
      | succ k1 =>
        have H := HA.out
        clear HA
        simp only [symbolonref01_Inverse.l0] at H
        by_cases c3 : x6_1 < 64
        · rw [if_pos c3] at H
          have c3b0 : decide (x6_1 < 64) = true := decide_eq_true c3
          clear c3
          by_cases c4 : x6_1 = 0
          · rw [if_pos c4] at H
            have c4b0 : (x6_1 == 0) = true := beq_iff_eq.mpr c4
            have c4b1 : (x6_1 != 0) = false := bne_eq_false_iff_eq.mpr c4
            clear c4
            by_cases c5 : x5_1 = 0
            · rw [if_pos c5] at H
              exact absurd H (by simp)
            · rw [if_neg c5] at H
              have c5b0 : (x5_1 == 0) = false := beq_eq_false_iff_ne.mpr c5
              have c5b1 : (x5_1 != 0) = true := bne_iff_ne.mpr c5
              by_cases c6 : (Int.tmod (IntKind.u64.wrap (Int.tdiv (IntKind.u64.wrap (a0 * x4_1)) x5_1)) 2) = 1
              · rw [if_pos c6] at H
                have c6b0 : ((Int.tmod (IntKind.u64.wrap (Int.tdiv (IntKind.u64.wrap (a0 * x4_1)) x5_1)) 2) == 1) = true := beq_iff_eq.mpr c6
                have c6b1 : ((Int.tmod (IntKind.u64.wrap (Int.tdiv (IntKind.u64.wrap (a0 * x4_1)) x5_1)) 2) != 1) = false := bne_eq_false_iff_eq.mpr c6
                clear c6
                have H' := Aside0.mk H
                clear H
                go_wp2
                go_roundg k1
                case measure => have := HK1.out; omega
                case rel => exact ⟨(x4_1), (IntKind.u64.wrap (x5_1 * 2)), (wrap64 (x6_1 + 1)), (by first | rfl | (simp; done) | (simp [*]; done)), (by first | rfl | (simp; done) | (simp [*]; done)), (by first | rfl | (simp; done) | (simp [*]; done)), H', ⟨by have := HK1.out; omega⟩, by repeat (first | exact Drawn0.refl _ | apply Drawn0.step)⟩
              · rw [if_neg c6] at H
                have c6b0 : ((Int.tmod (IntKind.u64.wrap (Int.tdiv (IntKind.u64.wrap (a0 * x4_1)) x5_1)) 2) == 1) = false := beq_eq_false_iff_ne.mpr c6
                have c6b1 : ((Int.tmod (IntKind.u64.wrap (Int.tdiv (IntKind.u64.wrap (a0 * x4_1)) x5_1)) 2) != 1) = true := bne_iff_ne.mpr c6
                have H' := Aside0.mk H
                clear H
                go_wp2
                go_roundg k1
                case measure => have := HK1.out; omega
                case rel => exact ⟨(IntKind.u64.wrap (x4_1 + x5_1)), (IntKind.u64.wrap (x5_1 * 2)), (wrap64 (x6_1 + 1)), (by first | rfl | (simp; done) | (simp [*]; done)), (by first | rfl | (simp; done) | (simp [*]; done)), (by first | rfl | (simp; done) | (simp [*]; done)), H', ⟨by have := HK1.out; omega⟩, by repeat (first | exact Drawn0.refl _ | apply Drawn0.step)⟩
          · rw [if_neg c4] at H
            have c4b0 : (x6_1 == 0) = false := beq_eq_false_iff_ne.mpr c4
            have c4b1 : (x6_1 != 0) = true := bne_iff_ne.mpr c4
            by_cases c7 : x5_1 = 0
            · rw [if_pos c7] at H
              exact absurd H (by simp)
            · rw [if_neg c7] at H
              have c7b0 : (x5_1 == 0) = false := beq_eq_false_iff_ne.mpr c7
              have c7b1 : (x5_1 != 0) = true := bne_iff_ne.mpr c7
              by_cases c8 : (Int.tmod (IntKind.u64.wrap (Int.tdiv (IntKind.u64.wrap (a0 * x4_1)) x5_1)) 2) = 0
              · rw [if_pos c8] at H
                have c8b0 : ((Int.tmod (IntKind.u64.wrap (Int.tdiv (IntKind.u64.wrap (a0 * x4_1)) x5_1)) 2) == 0) = true := beq_iff_eq.mpr c8
                have c8b1 : ((Int.tmod (IntKind.u64.wrap (Int.tdiv (IntKind.u64.wrap (a0 * x4_1)) x5_1)) 2) != 0) = false := bne_eq_false_iff_eq.mpr c8
                clear c8
                have H' := Aside0.mk H
                clear H
                go_wp2
                go_roundg k1
                case measure => have := HK1.out; omega
                case rel => exact ⟨(x4_1), (IntKind.u64.wrap (x5_1 * 2)), (wrap64 (x6_1 + 1)), (by first | rfl | (simp; done) | (simp [*]; done)), (by first | rfl | (simp; done) | (simp [*]; done)), (by first | rfl | (simp; done) | (simp [*]; done)), H', ⟨by have := HK1.out; omega⟩, by repeat (first | exact Drawn0.refl _ | apply Drawn0.step)⟩
              · rw [if_neg c8] at H
                have c8b0 : ((Int.tmod (IntKind.u64.wrap (Int.tdiv (IntKind.u64.wrap (a0 * x4_1)) x5_1)) 2) == 0) = false := beq_eq_false_iff_ne.mpr c8
                have c8b1 : ((Int.tmod (IntKind.u64.wrap (Int.tdiv (IntKind.u64.wrap (a0 * x4_1)) x5_1)) 2) != 0) = true := bne_iff_ne.mpr c8
                have H' := Aside0.mk H
                clear H
                go_wp2
                go_roundg k1
                case measure => have := HK1.out; omega
                case rel => exact ⟨(IntKind.u64.wrap (x4_1 + x5_1)), (IntKind.u64.wrap (x5_1 * 2)), (wrap64 (x6_1 + 1)), (by first | rfl | (simp; done) | (simp [*]; done)), (by first | rfl | (simp; done) | (simp [*]; done)), (by first | rfl | (simp; done) | (simp [*]; done)), H', ⟨by have := HK1.out; omega⟩, by repeat (first | exact Drawn0.refl _ | apply Drawn0.step)⟩
        · rw [if_neg c3] at H
          have c3b0 : decide (x6_1 < 64) = false := decide_eq_false c3
          clear c3
          simp only [Option.some.injEq, Prod.mk.injEq] at H
          obtain ⟨rfl, rfl⟩ := H
          go_wp2
          go_ret2
          exact ⟨by first | rfl | (simp; done) | (simp [*]; done), by repeat (first | exact Drawn0.refl _ | apply Drawn0.step)⟩

end Go.Proofs.Ytifehkjcccjccaa.PRg
