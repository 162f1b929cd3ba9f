/- The Go functions that this seat's statements reach: each with the plain function that it computes, for every input at which that function answers. Written by a program of the session (wip/tools/hprint.py) over the kit's printer; contracts that the printer does not take are proved by hand among them. -/
import Derived.Test.YtlfjebbcmngihaaPTrx0
namespace Go.Proofs.Ytlfjebbcmngihaa.PTr
open Go.RowKit Go.Proofs.YtlfjebbcmngihaaW.PrintWords Go.Proofs.YtlfjebbcmngihaaW.PrintLast Go.Proofs.YtlfjebbcmngihaaW.PrintMore
attribute [local go_sem] max2_int min2_int max_two min_two max_three min_three max_four min_four   -- for this text's walks alone
set_option linter.unusedVariables false
set_option linter.unusedSimpArgs false

/-! ### symbolonref01_Inverse: function 28 -/
def symbolonref01_Inverse.l0 : Nat → Int → Int → Int → Int → Option (Int × Bool)
  | 0, _, _, _, _ => none
  | k + 1, x0, x4, x5, x6 => if x6 < 64 then (if x6 = 0 then (if x5 = 0 then (none) else (if (Int.tmod (IntKind.u64.wrap (Int.tdiv (IntKind.u64.wrap (x0 * x4)) x5)) 2) = 1 then (symbolonref01_Inverse.l0 k x0 x4 (IntKind.u64.wrap (x5 * 2)) (wrap64 (x6 + 1))) else (symbolonref01_Inverse.l0 k x0 (IntKind.u64.wrap (x4 + x5)) (IntKind.u64.wrap (x5 * 2)) (wrap64 (x6 + 1))))) else (if x5 = 0 then (none) else (if (Int.tmod (IntKind.u64.wrap (Int.tdiv (IntKind.u64.wrap (x0 * x4)) x5)) 2) = 0 then (symbolonref01_Inverse.l0 k x0 x4 (IntKind.u64.wrap (x5 * 2)) (wrap64 (x6 + 1))) else (symbolonref01_Inverse.l0 k x0 (IntKind.u64.wrap (x4 + x5)) (IntKind.u64.wrap (x5 * 2)) (wrap64 (x6 + 1)))))) else (some (x4, true))
def symbolonref01_Inverse.f (k : Nat) (a0 : Int) : Option (Int × Bool) := if (Int.tmod a0 2) = 0 then (some (0, false)) else (symbolonref01_Inverse.l0 k a0 0 1 0)
theorem symbolonref01_Inverse.mono_l : ∀ k, (∀ y0 y1 y2 y3, LeO (symbolonref01_Inverse.l0 k y0 y1 y2 y3) (symbolonref01_Inverse.l0 (k + 1) y0 y1 y2 y3))
  | 0 => fun _ _ _ _ r h => by simp [symbolonref01_Inverse.l0] at h
  | k + 1 => by
    have ih0 := symbolonref01_Inverse.mono_l k
    · intro y0 y1 y2 y3
      unfold symbolonref01_Inverse.l0
      repeat' first
      | (with_reducible exact ih0 _ _ _ _)
      | (with_reducible exact LeO.refl _)
      | (with_reducible exact LeO.none _)
      | (with_reducible refine LeO.ite ?_ ?_)
      | (with_reducible refine LeO.bind ?_ (fun _ => ?_))
      | exact ih0 _ _ _ _
      | exact LeO.none _
      | refine LeO.ite ?_ ?_
      | refine LeO.bind ?_ (fun _ => ?_)
theorem symbolonref01_Inverse.mono : ∀ a0 k, LeO (symbolonref01_Inverse.f k a0) (symbolonref01_Inverse.f (k + 1) a0) := by
  intro a0 k
  have ih0 := symbolonref01_Inverse.mono_l k
  unfold symbolonref01_Inverse.f
  repeat' first
      | (with_reducible exact ih0 _ _ _ _)
      | (with_reducible exact LeO.refl _)
      | (with_reducible exact LeO.none _)
      | (with_reducible refine LeO.ite ?_ ?_)
      | (with_reducible refine LeO.bind ?_ (fun _ => ?_))
      | exact ih0 _ _ _ _
      | exact LeO.none _
      | refine LeO.ite ?_ ?_
      | refine LeO.bind ?_ (fun _ => ?_)
set_option maxHeartbeats 8000000 in
set_option maxRecDepth 100000 in
theorem symbolonref01_Inverse.calls (k : Nat) (a0 : Int) (r1 : Int) (r2 : Bool) (w : World) (h : symbolonref01_Inverse.f k a0 = some (r1, r2)) :
    Calls Try.prog 28 #[.int .u64 a0] w fun e w' => e = .returned (.tuple #[.int .u64 r1, .bool r2]) ∧ Drawn0 w w' := by
  have H : (if (Int.tmod a0 2) = 0 then (some (0, false)) else (symbolonref01_Inverse.l0 k a0 0 1 0)) = some (r1, r2) := h
  clear h
  by_cases c2 : (Int.tmod a0 2) = 0
  · rw [if_pos c2] at H
    have c2b0 : ((Int.tmod a0 2) == 0) = true := beq_iff_eq.mpr c2
    have c2b1 : ((Int.tmod a0 2) != 0) = false := bne_eq_false_iff_eq.mpr c2
    clear c2
    simp only [Option.some.injEq, Prod.mk.injEq] at H
    obtain ⟨rfl, rfl⟩ := H
    go_enter Try.func28, Try.ntmps28
    go_wp2
    go_ret2
    exact ⟨by first | rfl | (simp; done) | (simp [*]; done), by repeat (first | exact Drawn0.refl _ | apply Drawn0.step)⟩
  · rw [if_neg c2] at H
    have c2b0 : ((Int.tmod a0 2) == 0) = false := beq_eq_false_iff_ne.mpr c2
    have c2b1 : ((Int.tmod a0 2) != 0) = true := bne_iff_ne.mpr c2
    have H' := Aside0.mk H
    clear H
    go_enter Try.func28, Try.ntmps28
    go_wp2
    go_loopg [4, 5, 6] k (fun kq v4 v5 v6 w' => ∃ (x4_1 : Int) (x5_1 : Int) (x6_1 : Int), v4 = .int .u64 x4_1 ∧ v5 = .int .u64 x5_1 ∧ v6 = .int .i64 x6_1 ∧ Aside0 (symbolonref01_Inverse.l0 kq a0 x4_1 x5_1 x6_1 = some (r1, r2)) ∧ Aside0 (kq ≤ k) ∧ Drawn0 w w')
    case atStart => exact ⟨(0), (1), (0), (by first | rfl | (simp; done) | (simp [*]; done)), (by first | rfl | (simp; done) | (simp [*]; done)), (by first | rfl | (simp; done) | (simp [*]; done)), H', ⟨Nat.le_refl _⟩, by repeat (first | exact Drawn0.refl _ | apply Drawn0.step)⟩
    case round =>
      clear H'
      try clear c2
      try clear c2b0
      try clear c2b1
      try clear p2
      obtain ⟨x4_1, x5_1, x6_1, rfl, rfl, rfl, HA, HK1, ⟨m1, rfl⟩⟩ := hrel
      cases gk with
      | zero => exact absurd HA.out (by simp [symbolonref01_Inverse.l0])
      | succ k1 =>
        have H := HA.out
        clear HA
        simp only [symbolonref01_Inverse.l0] at H
        by_cases c3 : x6_1 < 64
        · rw [if_pos c3] at H
          have c3b0 : decide (x6_1 < 64) = true := decide_eq_true c3
          clear c3
          by_cases c4 : x6_1 = 0
          · rw [if_pos c4] at H
            have c4b0 : (x6_1 == 0) = true := beq_iff_eq.mpr c4
            have c4b1 : (x6_1 != 0) = false := bne_eq_false_iff_eq.mpr c4
            clear c4
            by_cases c5 : x5_1 = 0
            · rw [if_pos c5] at H
              exact absurd H (by simp)
            · rw [if_neg c5] at H
              have c5b0 : (x5_1 == 0) = false := beq_eq_false_iff_ne.mpr c5
              have c5b1 : (x5_1 != 0) = true := bne_iff_ne.mpr c5
              by_cases c6 : (Int.tmod (IntKind.u64.wrap (Int.tdiv (IntKind.u64.wrap (a0 * x4_1)) x5_1)) 2) = 1
              · rw [if_pos c6] at H
                have c6b0 : ((Int.tmod (IntKind.u64.wrap (Int.tdiv (IntKind.u64.wrap (a0 * x4_1)) x5_1)) 2) == 1) = true := beq_iff_eq.mpr c6
                have c6b1 : ((Int.tmod (IntKind.u64.wrap (Int.tdiv (IntKind.u64.wrap (a0 * x4_1)) x5_1)) 2) != 1) = false := bne_eq_false_iff_eq.mpr c6
                clear c6
                have H' := Aside0.mk H
                clear H
                go_wp2
                go_roundg k1
                case measure => have := HK1.out; omega
                case rel => exact ⟨(x4_1), (IntKind.u64.wrap (x5_1 * 2)), (wrap64 (x6_1 + 1)), (by first | rfl | (simp; done) | (simp [*]; done)), (by first | rfl | (simp; done) | (simp [*]; done)), (by first | rfl | (simp; done) | (simp [*]; done)), H', ⟨by have := HK1.out; omega⟩, by repeat (first | exact Drawn0.refl _ | apply Drawn0.step)⟩
              · rw [if_neg c6] at H
                have c6b0 : ((Int.tmod (IntKind.u64.wrap (Int.tdiv (IntKind.u64.wrap (a0 * x4_1)) x5_1)) 2) == 1) = false := beq_eq_false_iff_ne.mpr c6
                have c6b1 : ((Int.tmod (IntKind.u64.wrap (Int.tdiv (IntKind.u64.wrap (a0 * x4_1)) x5_1)) 2) != 1) = true := bne_iff_ne.mpr c6
                have H' := Aside0.mk H
                clear H
                go_wp2
                go_roundg k1
                case measure => have := HK1.out; omega
                case rel => exact ⟨(IntKind.u64.wrap (x4_1 + x5_1)), (IntKind.u64.wrap (x5_1 * 2)), (wrap64 (x6_1 + 1)), (by first | rfl | (simp; done) | (simp [*]; done)), (by first | rfl | (simp; done) | (simp [*]; done)), (by first | rfl | (simp; done) | (simp [*]; done)), H', ⟨by have := HK1.out; omega⟩, by repeat (first | exact Drawn0.refl _ | apply Drawn0.step)⟩
          · rw [if_neg c4] at H
            have c4b0 : (x6_1 == 0) = false := beq_eq_false_iff_ne.mpr c4
            have c4b1 : (x6_1 != 0) = true := bne_iff_ne.mpr c4
            by_cases c7 : x5_1 = 0
            · rw [if_pos c7] at H
              exact absurd H (by simp)
            · rw [if_neg c7] at H
              have c7b0 : (x5_1 == 0) = false := beq_eq_false_iff_ne.mpr c7
              have c7b1 : (x5_1 != 0) = true := bne_iff_ne.mpr c7
              by_cases c8 : (Int.tmod (IntKind.u64.wrap (Int.tdiv (IntKind.u64.wrap (a0 * x4_1)) x5_1)) 2) = 0
              · rw [if_pos c8] at H
                have c8b0 : ((Int.tmod (IntKind.u64.wrap (Int.tdiv (IntKind.u64.wrap (a0 * x4_1)) x5_1)) 2) == 0) = true := beq_iff_eq.mpr c8
                have c8b1 : ((Int.tmod (IntKind.u64.wrap (Int.tdiv (IntKind.u64.wrap (a0 * x4_1)) x5_1)) 2) != 0) = false := bne_eq_false_iff_eq.mpr c8
                clear c8
                have H' := Aside0.mk H
                clear H
                go_wp2
                go_roundg k1
                case measure => have := HK1.out; omega
                case rel => exact ⟨(x4_1), (IntKind.u64.wrap (x5_1 * 2)), (wrap64 (x6_1 + 1)), (by first | rfl | (simp; done) | (simp [*]; done)), (by first | rfl | (simp; done) | (simp [*]; done)), (by first | rfl | (simp; done) | (simp [*]; done)), H', ⟨by have := HK1.out; omega⟩, by repeat (first | exact Drawn0.refl _ | apply Drawn0.step)⟩
              · rw [if_neg c8] at H
                have c8b0 : ((Int.tmod (IntKind.u64.wrap (Int.tdiv (IntKind.u64.wrap (a0 * x4_1)) x5_1)) 2) == 0) = false := beq_eq_false_iff_ne.mpr c8
                have c8b1 : ((Int.tmod (IntKind.u64.wrap (Int.tdiv (IntKind.u64.wrap (a0 * x4_1)) x5_1)) 2) != 0) = true := bne_iff_ne.mpr c8
                have H' := Aside0.mk H
                clear H
                go_wp2
                go_roundg k1
                case measure => have := HK1.out; omega
                case rel => exact ⟨(IntKind.u64.wrap (x4_1 + x5_1)), (IntKind.u64.wrap (x5_1 * 2)), (wrap64 (x6_1 + 1)), (by first | rfl | (simp; done) | (simp [*]; done)), (by first | rfl | (simp; done) | (simp [*]; done)), (by first | rfl | (simp; done) | (simp [*]; done)), H', ⟨by have := HK1.out; omega⟩, by repeat (first | exact Drawn0.refl _ | apply Drawn0.step)⟩
        · rw [if_neg c3] at H
          have c3b0 : decide (x6_1 < 64) = false := decide_eq_false c3
          clear c3
          simp only [Option.some.injEq, Prod.mk.injEq] at H
          obtain ⟨rfl, rfl⟩ := H
          go_wp2
          go_ret2
          exact ⟨by first | rfl | (simp; done) | (simp [*]; done), by repeat (first | exact Drawn0.refl _ | apply Drawn0.step)⟩

/-! ### symbolonref09_back: function 29 -/
def symbolonref09_back.l0 : Nat → Int → Int → Int → Int → Option (Int)
  | 0, _, _, _, _ => none
  | k + 1, x0, x1, x5, x6 => if x6 ≥ 0 then (if 0 ≤ x6 then (if (wrap64 (x6 + x1)) < 64 then (if 0 ≤ (wrap64 (x6 + x1)) then (symbolonref09_back.l0 k x0 x1 (Go.bits .or .u64 x5 (shl .u64 (Go.bits .xor .u64 (Go.bits .and .u64 (shr .u64 x0 x6) 1) (Go.bits .and .u64 (shr .u64 x5 (wrap64 (x6 + x1))) 1)) x6)) (wrap64 (x6 - 1))) else (none)) else (symbolonref09_back.l0 k x0 x1 (Go.bits .or .u64 x5 (shl .u64 (Go.bits .and .u64 (shr .u64 x0 x6) 1) x6)) (wrap64 (x6 - 1)))) else (none)) else (some x5)
def symbolonref09_back.f (k : Nat) (a0 : Int) (a1 : Int) : Option (Int) := symbolonref09_back.l0 k a0 a1 0 63
theorem symbolonref09_back.mono_l : ∀ k, (∀ y0 y1 y2 y3, LeO (symbolonref09_back.l0 k y0 y1 y2 y3) (symbolonref09_back.l0 (k + 1) y0 y1 y2 y3))
  | 0 => fun _ _ _ _ r h => by simp [symbolonref09_back.l0] at h
  | k + 1 => by
    have ih0 := symbolonref09_back.mono_l k
    · intro y0 y1 y2 y3
      unfold symbolonref09_back.l0
      repeat' first
      | (with_reducible exact ih0 _ _ _ _)
      | (with_reducible exact LeO.refl _)
      | (with_reducible exact LeO.none _)
      | (with_reducible refine LeO.ite ?_ ?_)
      | (with_reducible refine LeO.bind ?_ (fun _ => ?_))
      | exact ih0 _ _ _ _
      | exact LeO.none _
      | refine LeO.ite ?_ ?_
      | refine LeO.bind ?_ (fun _ => ?_)
theorem symbolonref09_back.mono : ∀ a0 a1 k, LeO (symbolonref09_back.f k a0 a1) (symbolonref09_back.f (k + 1) a0 a1) := by
  intro a0 a1 k
  have ih0 := symbolonref09_back.mono_l k
  unfold symbolonref09_back.f
  repeat' first
      | (with_reducible exact ih0 _ _ _ _)
      | (with_reducible exact LeO.refl _)
      | (with_reducible exact LeO.none _)
      | (with_reducible refine LeO.ite ?_ ?_)
      | (with_reducible refine LeO.bind ?_ (fun _ => ?_))
      | exact ih0 _ _ _ _
      | exact LeO.none _
      | refine LeO.ite ?_ ?_
      | refine LeO.bind ?_ (fun _ => ?_)
set_option maxHeartbeats 8000000 in
set_option maxRecDepth 100000 in
theorem symbolonref09_back.calls (k : Nat) (a0 : Int) (a1 : Int) (r : Int) (w : World) (h : symbolonref09_back.f k a0 a1 = some r) :
    Calls Try.prog 29 #[.int .u64 a0, .int .i64 a1] w fun e w' => e = .returned (.int .u64 r) ∧ Drawn0 w w' := by
  have H : (symbolonref09_back.l0 k a0 a1 0 63) = some r := h
  clear h
  have H' := Aside0.mk H
  clear H
  go_enter Try.func29, Try.ntmps29
  go_wp2
  go_loopg [5, 6] k (fun kq v5 v6 w' => ∃ (x5_1 : Int) (x6_1 : Int), v5 = .int .u64 x5_1 ∧ v6 = .int .i64 x6_1 ∧ Aside0 (symbolonref09_back.l0 kq a0 a1 x5_1 x6_1 = some r) ∧ Aside0 (kq ≤ k) ∧ Drawn0 w w')
  case atStart => exact ⟨(0), (63), (by first | rfl | (simp; done) | (simp [*]; done)), (by first | rfl | (simp; done) | (simp [*]; done)), H', ⟨Nat.le_refl _⟩, by repeat (first | exact Drawn0.refl _ | apply Drawn0.step)⟩
  case round =>
    clear H'
    try clear c2
    try clear p2
    obtain ⟨x5_1, x6_1, rfl, rfl, HA, HK1, ⟨m1, rfl⟩⟩ := hrel
    cases gk with
    | zero => exact absurd HA.out (by simp [symbolonref09_back.l0])
    | succ k1 =>
      have H := HA.out
      clear HA
      simp only [symbolonref09_back.l0] at H
      by_cases c3 : x6_1 ≥ 0
      · rw [if_pos c3] at H
        have c3b0 : decide (0 ≤ x6_1) = true := decide_eq_true c3
        clear c3
        by_cases c4 : 0 ≤ x6_1
        · rw [if_pos c4] at H
          have c4b0 := eq_true c4
          have c4b1 : decide (0 ≤ x6_1) = true := decide_eq_true c4
          clear c4
          obtain ⟨ji5, hji5⟩ : ∃ j_ : Int, (shr .u64 a0 x6_1) = j_ := ⟨_, rfl⟩
          replace H : (if (wrap64 (x6_1 + a1)) < 64 then (if 0 ≤ (wrap64 (x6_1 + a1)) then (symbolonref09_back.l0 k1 a0 a1 (Go.bits .or .u64 x5_1 (shl .u64 (Go.bits .xor .u64 (Go.bits .and .u64 (ji5) 1) (Go.bits .and .u64 (shr .u64 x5_1 (wrap64 (x6_1 + a1))) 1)) x6_1)) (wrap64 (x6_1 - 1))) else (none)) else (symbolonref09_back.l0 k1 a0 a1 (Go.bits .or .u64 x5_1 (shl .u64 (Go.bits .and .u64 (ji5) 1) x6_1)) (wrap64 (x6_1 - 1)))) = some r := by first | (rw [hji5] at H; exact H) | (simp only [hji5] at H ⊢; exact H)
          have hji5_ : (a0 / 2 ^ min x6_1.toNat 64) = ji5 := hji5
          have hji5z : x6_1 ≤ 64 → (a0 / 2 ^ x6_1.toNat) = ji5 := shr_small hji5
          by_cases c6 : (wrap64 (x6_1 + a1)) < 64
          · rw [if_pos c6] at H
            have c6b0 : decide ((wrap64 (x6_1 + a1)) < 64) = true := decide_eq_true c6
            clear c6
            obtain ⟨ji7, hji7⟩ : ∃ j_ : Int, (wrap64 (x6_1 + a1)) = j_ := ⟨_, rfl⟩
            replace H : (if 0 ≤ (ji7) then (symbolonref09_back.l0 k1 a0 a1 (Go.bits .or .u64 x5_1 (shl .u64 (Go.bits .xor .u64 (Go.bits .and .u64 (ji5) 1) (Go.bits .and .u64 (shr .u64 x5_1 (ji7)) 1)) x6_1)) (wrap64 (x6_1 - 1))) else (none)) = some r := by first | (rw [hji7] at H; exact H) | (simp only [hji7] at H ⊢; exact H)
            (try rw [hji7] at c6b0)
            have hji7w : (IntKind.i64.wrap (x6_1 + a1)) = ji7 := (i64_w _).trans hji7
            by_cases c8 : 0 ≤ (ji7)
            · rw [if_pos c8] at H
              have c8b0 := eq_true c8
              have c8b1 : decide (0 ≤ (ji7)) = true := decide_eq_true c8
              clear c8
              obtain ⟨ji9, hji9⟩ : ∃ j_ : Int, (shr .u64 x5_1 (ji7)) = j_ := ⟨_, rfl⟩
              replace H : (symbolonref09_back.l0 k1 a0 a1 (Go.bits .or .u64 x5_1 (shl .u64 (Go.bits .xor .u64 (Go.bits .and .u64 (ji5) 1) (Go.bits .and .u64 (ji9) 1)) x6_1)) (wrap64 (x6_1 - 1))) = some r := by first | (rw [hji9] at H; exact H) | (simp only [hji9] at H ⊢; exact H)
              have hji9_ : (x5_1 / 2 ^ min (ji7).toNat 64) = ji9 := hji9
              have hji9z : (ji7) ≤ 64 → (x5_1 / 2 ^ (ji7).toNat) = ji9 := shr_small hji9
              have c10b0 := eq_true (of_decide_eq_true (by first | (with_reducible assumption) | assumption) : 0 ≤ x6_1)
              obtain ⟨ji11, hji11⟩ : ∃ j_ : Int, (shl .u64 (Go.bits .xor .u64 (Go.bits .and .u64 (ji5) 1) (Go.bits .and .u64 (ji9) 1)) x6_1) = j_ := ⟨_, rfl⟩
              replace H : (symbolonref09_back.l0 k1 a0 a1 (Go.bits .or .u64 x5_1 (ji11)) (wrap64 (x6_1 - 1))) = some r := by first | (rw [hji11] at H; exact H) | (simp only [hji11] at H ⊢; exact H)
              have hji11_ : (IntKind.u64.wrap ((Go.bits .xor .u64 (Go.bits .and .u64 (ji5) 1) (Go.bits .and .u64 (ji9) 1)) * 2 ^ min x6_1.toNat 64)) = ji11 := hji11
              have hji11z : x6_1 ≤ 64 → (IntKind.u64.wrap ((Go.bits .xor .u64 (Go.bits .and .u64 (ji5) 1) (Go.bits .and .u64 (ji9) 1)) * 2 ^ x6_1.toNat)) = ji11 := shl_small hji11
              have H' := Aside0.mk H
              clear H
              go_wp2
              go_roundg k1
              case measure => have := HK1.out; omega
              case rel => exact ⟨(Go.bits .or .u64 x5_1 (ji11)), (wrap64 (x6_1 - 1)), (by first | rfl | (simp; done) | (simp only [← hji11] <;> (first | rfl | simp)) | (simp [*]; done)), (by first | rfl | (simp; done) | (simp [*]; done)), H', ⟨by have := HK1.out; omega⟩, by repeat (first | exact Drawn0.refl _ | apply Drawn0.step)⟩
            · rw [if_neg c8] at H
              exact absurd H (by simp)
          · rw [if_neg c6] at H
            have c6b0 : decide ((wrap64 (x6_1 + a1)) < 64) = false := decide_eq_false c6
            clear c6
            have c12b0 := eq_true (of_decide_eq_true (by first | (with_reducible assumption) | assumption) : 0 ≤ x6_1)
            obtain ⟨ji13, hji13⟩ : ∃ j_ : Int, (shl .u64 (Go.bits .and .u64 (ji5) 1) x6_1) = j_ := ⟨_, rfl⟩
            replace H : (symbolonref09_back.l0 k1 a0 a1 (Go.bits .or .u64 x5_1 (ji13)) (wrap64 (x6_1 - 1))) = some r := by first | (rw [hji13] at H; exact H) | (simp only [hji13] at H ⊢; exact H)
            have hji13_ : (IntKind.u64.wrap ((Go.bits .and .u64 (ji5) 1) * 2 ^ min x6_1.toNat 64)) = ji13 := hji13
            have hji13z : x6_1 ≤ 64 → (IntKind.u64.wrap ((Go.bits .and .u64 (ji5) 1) * 2 ^ x6_1.toNat)) = ji13 := shl_small hji13
            have H' := Aside0.mk H
            clear H
            go_wp2
            go_roundg k1
            case measure => have := HK1.out; omega
            case rel => exact ⟨(Go.bits .or .u64 x5_1 (ji13)), (wrap64 (x6_1 - 1)), (by first | rfl | (simp; done) | (simp only [← hji13] <;> (first | rfl | simp)) | (simp [*]; done)), (by first | rfl | (simp; done) | (simp [*]; done)), H', ⟨by have := HK1.out; omega⟩, by repeat (first | exact Drawn0.refl _ | apply Drawn0.step)⟩
        · rw [if_neg c4] at H
          exact absurd H (by simp)
      · rw [if_neg c3] at H
        have c3b0 : decide (0 ≤ x6_1) = false := decide_eq_false c3
        clear c3
        obtain rfl := Option.some.inj H
        go_wp2
        go_ret
        exact ⟨by first | rfl | (simp; done) | (simp [*]; done), by repeat (first | exact Drawn0.refl _ | apply Drawn0.step)⟩

/-! ### symbolonref09_Back: function 19 -/
def symbolonref09_Back.f (k : Nat) (a0 : Int) (a1 : Int) : Option (Int) := (symbolonref01_Inverse.f k 10723151780598845931).bind fun bt193 => ((symbolonref01_Inverse.f k 13787848793156543929).bind fun bt195 => ((symbolonref01_Inverse.f k 11400714819323198485).bind fun bt197 => ((symbolonref09_back.f k a1 31).bind fun t199 => ((symbolonref09_back.f k (IntKind.u64.wrap (t199 * bt193.1)) 27).bind fun t200 => ((symbolonref09_back.f k (IntKind.u64.wrap (t200 * bt195.1)) 30).bind fun t201 => (some (IntKind.u64.wrap ((IntKind.u64.wrap ((IntKind.u64.wrap (t201 - a0)) * bt197.1)) - 1))))))))
theorem symbolonref09_Back.mono : ∀ a0 a1 k, LeO (symbolonref09_Back.f k a0 a1) (symbolonref09_Back.f (k + 1) a0 a1) := by
  intro a0 a1 k
  unfold symbolonref09_Back.f
  repeat' first
      | (with_reducible exact symbolonref01_Inverse.mono _ _)
      | (with_reducible exact symbolonref09_back.mono _ _ _)
      | (with_reducible exact LeO.refl _)
      | (with_reducible exact LeO.none _)
      | (with_reducible refine LeO.ite ?_ ?_)
      | (with_reducible refine LeO.bind ?_ (fun _ => ?_))
      | exact symbolonref01_Inverse.mono _ _
      | exact symbolonref09_back.mono _ _ _
      | exact LeO.none _
      | refine LeO.ite ?_ ?_
      | refine LeO.bind ?_ (fun _ => ?_)
set_option maxHeartbeats 8000000 in
set_option maxRecDepth 100000 in
theorem symbolonref09_Back.calls (k : Nat) (a0 : Int) (a1 : Int) (r : Int) (w : World) (h : symbolonref09_Back.f k a0 a1 = some r) :
    Calls Try.prog 19 #[.int .u64 a0, .int .u64 a1] w fun e w' => e = .returned (.int .u64 r) ∧ Drawn0 w w' := by
  have H : ((symbolonref01_Inverse.f k 10723151780598845931).bind fun bt193 => ((symbolonref01_Inverse.f k 13787848793156543929).bind fun bt195 => ((symbolonref01_Inverse.f k 11400714819323198485).bind fun bt197 => ((symbolonref09_back.f k a1 31).bind fun t199 => ((symbolonref09_back.f k (IntKind.u64.wrap (t199 * bt193.1)) 27).bind fun t200 => ((symbolonref09_back.f k (IntKind.u64.wrap (t200 * bt195.1)) 30).bind fun t201 => (some (IntKind.u64.wrap ((IntKind.u64.wrap ((IntKind.u64.wrap (t201 - a0)) * bt197.1)) - 1))))))))) = some r := h
  clear h
  replace H := Option.bind_eq_some_iff.mp H
  obtain ⟨⟨t193, t194⟩, A30, H⟩ := H
  replace H : ((symbolonref01_Inverse.f k 13787848793156543929).bind fun bt195 => ((symbolonref01_Inverse.f k 11400714819323198485).bind fun bt197 => ((symbolonref09_back.f k a1 31).bind fun t199 => ((symbolonref09_back.f k (IntKind.u64.wrap (t199 * t193)) 27).bind fun t200 => ((symbolonref09_back.f k (IntKind.u64.wrap (t200 * bt195.1)) 30).bind fun t201 => (some (IntKind.u64.wrap ((IntKind.u64.wrap ((IntKind.u64.wrap (t201 - a0)) * bt197.1)) - 1)))))))) = some r := H
  have A3 := Aside0.mk A30
  clear A30
  replace H := Option.bind_eq_some_iff.mp H
  obtain ⟨⟨t195, t196⟩, A40, H⟩ := H
  replace H : ((symbolonref01_Inverse.f k 11400714819323198485).bind fun bt197 => ((symbolonref09_back.f k a1 31).bind fun t199 => ((symbolonref09_back.f k (IntKind.u64.wrap (t199 * t193)) 27).bind fun t200 => ((symbolonref09_back.f k (IntKind.u64.wrap (t200 * t195)) 30).bind fun t201 => (some (IntKind.u64.wrap ((IntKind.u64.wrap ((IntKind.u64.wrap (t201 - a0)) * bt197.1)) - 1))))))) = some r := H
  have A4 := Aside0.mk A40
  clear A40
  replace H := Option.bind_eq_some_iff.mp H
  obtain ⟨⟨t197, t198⟩, A50, H⟩ := H
  replace H : ((symbolonref09_back.f k a1 31).bind fun t199 => ((symbolonref09_back.f k (IntKind.u64.wrap (t199 * t193)) 27).bind fun t200 => ((symbolonref09_back.f k (IntKind.u64.wrap (t200 * t195)) 30).bind fun t201 => (some (IntKind.u64.wrap ((IntKind.u64.wrap ((IntKind.u64.wrap (t201 - a0)) * t197)) - 1)))))) = some r := H
  have A5 := Aside0.mk A50
  clear A50
  replace H := Option.bind_eq_some_iff.mp H
  obtain ⟨t199, A60, H⟩ := H
  replace H : ((symbolonref09_back.f k (IntKind.u64.wrap (t199 * t193)) 27).bind fun t200 => ((symbolonref09_back.f k (IntKind.u64.wrap (t200 * t195)) 30).bind fun t201 => (some (IntKind.u64.wrap ((IntKind.u64.wrap ((IntKind.u64.wrap (t201 - a0)) * t197)) - 1))))) = some r := H
  have A6 := Aside0.mk A60
  clear A60
  replace H := Option.bind_eq_some_iff.mp H
  obtain ⟨t200, A70, H⟩ := H
  replace H : ((symbolonref09_back.f k (IntKind.u64.wrap (t200 * t195)) 30).bind fun t201 => (some (IntKind.u64.wrap ((IntKind.u64.wrap ((IntKind.u64.wrap (t201 - a0)) * t197)) - 1)))) = some r := H
  have A7 := Aside0.mk A70
  clear A70
  replace H := Option.bind_eq_some_iff.mp H
  obtain ⟨t201, A80, H⟩ := H
  replace H : (some (IntKind.u64.wrap ((IntKind.u64.wrap ((IntKind.u64.wrap (t201 - a0)) * t197)) - 1))) = some r := H
  have A8 := Aside0.mk A80
  clear A80
  obtain rfl := Option.some.inj H
  go_enter Try.func19, Try.ntmps19
  go_wp2_with (first | ((with_reducible refine gate_callee (f := 28) rfl ?_); refine goesL_ (some 13) rfl rfl Try.func28 (by kernel_rfl) rfl #[.int .u64 10723151780598845931] rfl (by (try simp only [List.map_toArray, List.map_cons, List.map_nil]); first | done | rfl | (simp only [List.length_drop, List.length_take]; rfl)) ?_; (with_reducible refine (symbolonref01_Inverse.calls k 10723151780598845931 t193 t194 _ A3.out).mono ?_); rintro e w' ⟨rfl, ⟨nd, rfl⟩⟩; refine ⟨_, rfl, ?_⟩) | ((with_reducible refine gate_callee (f := 28) rfl ?_); refine goesL_ (some 17) rfl rfl Try.func28 (by kernel_rfl) rfl #[.int .u64 13787848793156543929] rfl (by (try simp only [List.map_toArray, List.map_cons, List.map_nil]); first | done | rfl | (simp only [List.length_drop, List.length_take]; rfl)) ?_; (with_reducible refine (symbolonref01_Inverse.calls k 13787848793156543929 t195 t196 _ A4.out).mono ?_); rintro e w' ⟨rfl, ⟨nd, rfl⟩⟩; refine ⟨_, rfl, ?_⟩) | ((with_reducible refine gate_callee (f := 28) rfl ?_); refine goesL_ (some 21) rfl rfl Try.func28 (by kernel_rfl) rfl #[.int .u64 11400714819323198485] rfl (by (try simp only [List.map_toArray, List.map_cons, List.map_nil]); first | done | rfl | (simp only [List.length_drop, List.length_take]; rfl)) ?_; (with_reducible refine (symbolonref01_Inverse.calls k 11400714819323198485 t197 t198 _ A5.out).mono ?_); rintro e w' ⟨rfl, ⟨nd, rfl⟩⟩; refine ⟨_, rfl, ?_⟩) | ((with_reducible refine gate_callee (f := 29) rfl ?_); refine goesL_ (some 25) rfl rfl Try.func29 (by kernel_rfl) rfl #[.int .u64 a1, .int .i64 31] rfl (by (try simp only [List.map_toArray, List.map_cons, List.map_nil]); first | done | rfl | (simp only [List.length_drop, List.length_take]; rfl)) ?_; (with_reducible refine (symbolonref09_back.calls k a1 31 t199 _ A6.out).mono ?_); rintro e w' ⟨rfl, ⟨nd, rfl⟩⟩; refine ⟨_, rfl, ?_⟩) | ((with_reducible refine gate_callee (f := 29) rfl ?_); refine goesL_ (some 29) rfl rfl Try.func29 (by kernel_rfl) rfl #[.int .u64 (IntKind.u64.wrap (t199 * t193)), .int .i64 27] rfl (by (try simp only [List.map_toArray, List.map_cons, List.map_nil]); first | done | rfl | (simp only [List.length_drop, List.length_take]; rfl)) ?_; (with_reducible refine (symbolonref09_back.calls k (IntKind.u64.wrap (t199 * t193)) 27 t200 _ A7.out).mono ?_); rintro e w' ⟨rfl, ⟨nd, rfl⟩⟩; refine ⟨_, rfl, ?_⟩) | ((with_reducible refine gate_callee (f := 29) rfl ?_); refine goesL_ (some 33) rfl rfl Try.func29 (by kernel_rfl) rfl #[.int .u64 (IntKind.u64.wrap (t200 * t195)), .int .i64 30] rfl (by (try simp only [List.map_toArray, List.map_cons, List.map_nil]); first | done | rfl | (simp only [List.length_drop, List.length_take]; rfl)) ?_; (with_reducible refine (symbolonref09_back.calls k (IntKind.u64.wrap (t200 * t195)) 30 t201 _ A8.out).mono ?_); rintro e w' ⟨rfl, ⟨nd, rfl⟩⟩; refine ⟨_, rfl, ?_⟩))
  go_ret
  exact ⟨by first | rfl | (simp; done) | (simp [*]; done), by repeat (first | exact Drawn0.refl _ | apply Drawn0.step)⟩

end Go.Proofs.Ytlfjebbcmngihaa.PTr
