/- The Go functions that this seat's statements reach: each with the plain function that it computes, for every input at which that function answers. Written by a program of the session (wip/tools/hprint.py) over the kit's printer; contracts that the printer does not take are proved by hand among them. -/
import Derived.Test.YtlfjebbcmngihaaPTrx0
namespace Go.Proofs.Ytlfjebbcmngihaa.PTr
open Go.RowKit Go.Proofs.YtlfjebbcmngihaaW.PrintWords Go.Proofs.YtlfjebbcmngihaaW.PrintLast Go.Proofs.YtlfjebbcmngihaaW.PrintMore
attribute [local go_sem] max2_int min2_int max_two min_two max_three min_three max_four min_four   -- for this text's walks alone
set_option linter.unusedVariables false
set_option linter.unusedSimpArgs false

/-! ### stream_fold: function 30 -/
def stream_fold.l0 : Nat → Int → Int → Int → Int → Int → Option (Int)
  | 0, _, _, _, _, _ => none
  | k + 1, x0, x1, x7, x9, x10 => if x10 < x9 then (if 0 ≤ x1 then (stream_fold.l0 k x0 x1 (Go.bits .xor .u64 x0 (shr .u64 x7 x1)) x9 (wrap64 (x10 + 1))) else (none)) else (some x7)
def stream_fold.f (k : Nat) (a0 : Int) (a1 : Int) (a2 : Int) : Option (Int) := stream_fold.l0 k a0 a1 a0 a2 0
theorem stream_fold.mono_l : ∀ k, (∀ y0 y1 y2 y3 y4, LeO (stream_fold.l0 k y0 y1 y2 y3 y4) (stream_fold.l0 (k + 1) y0 y1 y2 y3 y4))
  | 0 => fun _ _ _ _ _ r h => by simp [stream_fold.l0] at h
  | k + 1 => by
    have ih0 := stream_fold.mono_l k
    · intro y0 y1 y2 y3 y4
      unfold stream_fold.l0
      repeat' first
      | (with_reducible exact ih0 _ _ _ _ _)
      | (with_reducible exact LeO.refl _)
      | (with_reducible exact LeO.none _)
      | (with_reducible refine LeO.ite ?_ ?_)
      | (with_reducible refine LeO.bind ?_ (fun _ => ?_))
      | exact ih0 _ _ _ _ _
      | exact LeO.none _
      | refine LeO.ite ?_ ?_
      | refine LeO.bind ?_ (fun _ => ?_)
theorem stream_fold.mono : ∀ a0 a1 a2 k, LeO (stream_fold.f k a0 a1 a2) (stream_fold.f (k + 1) a0 a1 a2) := by
  intro a0 a1 a2 k
  have ih0 := stream_fold.mono_l k
  unfold stream_fold.f
  repeat' first
      | (with_reducible exact ih0 _ _ _ _ _)
      | (with_reducible exact LeO.refl _)
      | (with_reducible exact LeO.none _)
      | (with_reducible refine LeO.ite ?_ ?_)
      | (with_reducible refine LeO.bind ?_ (fun _ => ?_))
      | exact ih0 _ _ _ _ _
      | exact LeO.none _
      | refine LeO.ite ?_ ?_
      | refine LeO.bind ?_ (fun _ => ?_)
set_option maxHeartbeats 8000000 in
set_option maxRecDepth 100000 in
theorem stream_fold.calls (k : Nat) (a0 : Int) (a1 : Int) (a2 : Int) (r : Int) (w : World) (h : stream_fold.f k a0 a1 a2 = some r) :
    Calls Try.prog 30 #[.int .u64 a0, .int .i64 a1, .int .i64 a2] w fun e w' => e = .returned (.int .u64 r) ∧ Drawn0 w w' := by
  have H : (stream_fold.l0 k a0 a1 a0 a2 0) = some r := h
  clear h
  have H' := Aside0.mk H
  clear H
  go_enter Try.func30, Try.ntmps30
  go_wp2
  go_loopg [7, 10] k (fun kq v7 v10 w' => ∃ (x7_1 : Int) (x10_1 : Int), v7 = .int .u64 x7_1 ∧ v10 = .int .i64 x10_1 ∧ Aside0 (stream_fold.l0 kq a0 a1 x7_1 a2 x10_1 = some r) ∧ Aside0 (kq ≤ k) ∧ Drawn0 w w')
  case atStart => exact ⟨(a0), (0), (by first | rfl | (simp; done) | (simp [*]; done)), (by first | rfl | (simp; done) | (simp [*]; done)), H', ⟨Nat.le_refl _⟩, by repeat (first | exact Drawn0.refl _ | apply Drawn0.step)⟩
  case round =>
    clear H'
    try clear p2
    try clear c3
    obtain ⟨x7_1, x10_1, rfl, rfl, HA, HK1, ⟨m1, rfl⟩⟩ := hrel
    cases gk with
    | zero => exact absurd HA.out (by simp [stream_fold.l0])
    | succ k1 =>
      have H := HA.out
      clear HA
      simp only [stream_fold.l0] at H
      by_cases c4 : x10_1 < a2
      · rw [if_pos c4] at H
        have c4b0 : decide (x10_1 < a2) = true := decide_eq_true c4
        clear c4
        by_cases c5 : 0 ≤ a1
        · rw [if_pos c5] at H
          have c5b0 := eq_true c5
          have c5b1 : decide (0 ≤ a1) = true := decide_eq_true c5
          clear c5
          obtain ⟨ji6, hji6⟩ : ∃ j_ : Int, (shr .u64 x7_1 a1) = j_ := ⟨_, rfl⟩
          replace H : (stream_fold.l0 k1 a0 a1 (Go.bits .xor .u64 a0 (ji6)) a2 (wrap64 (x10_1 + 1))) = some r := by first | (rw [hji6] at H; exact H) | (simp only [hji6] at H ⊢; exact H)
          have hji6_ : (x7_1 / 2 ^ min a1.toNat 64) = ji6 := hji6
          have hji6z : a1 ≤ 64 → (x7_1 / 2 ^ a1.toNat) = ji6 := shr_small hji6
          have H' := Aside0.mk H
          clear H
          go_wp2
          go_roundg k1
          case measure => have := HK1.out; omega
          case rel => exact ⟨(Go.bits .xor .u64 a0 (ji6)), (wrap64 (x10_1 + 1)), (by first | rfl | (simp; done) | (simp only [← hji6] <;> (first | rfl | simp)) | (simp [*]; done)), (by first | rfl | (simp; done) | (simp [*]; done)), H', ⟨by have := HK1.out; omega⟩, by repeat (first | exact Drawn0.refl _ | apply Drawn0.step)⟩
        · rw [if_neg c5] at H
          exact absurd H (by simp)
      · rw [if_neg c4] at H
        have c4b0 : decide (x10_1 < a2) = false := decide_eq_false c4
        clear c4
        obtain rfl := Option.some.inj H
        go_wp2
        go_ret
        exact ⟨by first | rfl | (simp; done) | (simp [*]; done), by repeat (first | exact Drawn0.refl _ | apply Drawn0.step)⟩

/-! ### stream_Number: function 21 -/
def stream_Number.f (k : Nat) (a0 : Int) (a1 : Int) : Option (Int) := (stream_fold.f k (IntKind.u64.wrap (a0 + (IntKind.u64.wrap (11400714819323198485 * (IntKind.u64.wrap (a1 + 1)))))) 30 1).bind fun t101 => ((stream_fold.f k (IntKind.u64.wrap (13787848793156543929 * t101)) 27 1).bind fun t102 => ((stream_fold.f k (IntKind.u64.wrap (10723151780598845931 * t102)) 31 1).bind fun t103 => (some t103)))
theorem stream_Number.mono : ∀ a0 a1 k, LeO (stream_Number.f k a0 a1) (stream_Number.f (k + 1) a0 a1) := by
  intro a0 a1 k
  unfold stream_Number.f
  repeat' first
      | (with_reducible exact stream_fold.mono _ _ _ _)
      | (with_reducible exact LeO.refl _)
      | (with_reducible exact LeO.none _)
      | (with_reducible refine LeO.ite ?_ ?_)
      | (with_reducible refine LeO.bind ?_ (fun _ => ?_))
      | exact stream_fold.mono _ _ _ _
      | exact LeO.none _
      | refine LeO.ite ?_ ?_
      | refine LeO.bind ?_ (fun _ => ?_)
set_option maxHeartbeats 8000000 in
set_option maxRecDepth 100000 in
theorem stream_Number.calls (k : Nat) (a0 : Int) (a1 : Int) (r : Int) (w : World) (h : stream_Number.f k a0 a1 = some r) :
    Calls Try.prog 21 #[.int .u64 a0, .int .u64 a1] w fun e w' => e = .returned (.int .u64 r) ∧ Drawn0 w w' := by
  have H : ((stream_fold.f k (IntKind.u64.wrap (a0 + (IntKind.u64.wrap (11400714819323198485 * (IntKind.u64.wrap (a1 + 1)))))) 30 1).bind fun t101 => ((stream_fold.f k (IntKind.u64.wrap (13787848793156543929 * t101)) 27 1).bind fun t102 => ((stream_fold.f k (IntKind.u64.wrap (10723151780598845931 * t102)) 31 1).bind fun t103 => (some t103)))) = some r := h
  clear h
  replace H := Option.bind_eq_some_iff.mp H
  obtain ⟨t101, A30, H⟩ := H
  replace H : ((stream_fold.f k (IntKind.u64.wrap (13787848793156543929 * t101)) 27 1).bind fun t102 => ((stream_fold.f k (IntKind.u64.wrap (10723151780598845931 * t102)) 31 1).bind fun t103 => (some t103))) = some r := H
  have A3 := Aside0.mk A30
  clear A30
  replace H := Option.bind_eq_some_iff.mp H
  obtain ⟨t102, A40, H⟩ := H
  replace H : ((stream_fold.f k (IntKind.u64.wrap (10723151780598845931 * t102)) 31 1).bind fun t103 => (some t103)) = some r := H
  have A4 := Aside0.mk A40
  clear A40
  replace H := Option.bind_eq_some_iff.mp H
  obtain ⟨t103, A50, H⟩ := H
  replace H : (some t103) = some r := H
  have A5 := Aside0.mk A50
  clear A50
  obtain rfl := Option.some.inj H
  go_enter Try.func21, Try.ntmps21
  go_wp2_with (first | ((with_reducible refine gate_callee (f := 30) rfl ?_); refine goesL_ (some 12) rfl rfl Try.func30 (by kernel_rfl) rfl #[.int .u64 (IntKind.u64.wrap (a0 + (IntKind.u64.wrap (11400714819323198485 * (IntKind.u64.wrap (a1 + 1)))))), .int .i64 30, .int .i64 1] rfl (by (try simp only [List.map_toArray, List.map_cons, List.map_nil]); first | done | rfl | (simp only [List.length_drop, List.length_take]; rfl)) ?_; (with_reducible refine (stream_fold.calls k (IntKind.u64.wrap (a0 + (IntKind.u64.wrap (11400714819323198485 * (IntKind.u64.wrap (a1 + 1)))))) 30 1 t101 _ A3.out).mono ?_); rintro e w' ⟨rfl, ⟨nd, rfl⟩⟩; refine ⟨_, rfl, ?_⟩) | ((with_reducible refine gate_callee (f := 30) rfl ?_); refine goesL_ (some 15) rfl rfl Try.func30 (by kernel_rfl) rfl #[.int .u64 (IntKind.u64.wrap (13787848793156543929 * t101)), .int .i64 27, .int .i64 1] rfl (by (try simp only [List.map_toArray, List.map_cons, List.map_nil]); first | done | rfl | (simp only [List.length_drop, List.length_take]; rfl)) ?_; (with_reducible refine (stream_fold.calls k (IntKind.u64.wrap (13787848793156543929 * t101)) 27 1 t102 _ A4.out).mono ?_); rintro e w' ⟨rfl, ⟨nd, rfl⟩⟩; refine ⟨_, rfl, ?_⟩) | ((with_reducible refine gate_callee (f := 30) rfl ?_); refine goesL_ (some 18) rfl rfl Try.func30 (by kernel_rfl) rfl #[.int .u64 (IntKind.u64.wrap (10723151780598845931 * t102)), .int .i64 31, .int .i64 1] rfl (by (try simp only [List.map_toArray, List.map_cons, List.map_nil]); first | done | rfl | (simp only [List.length_drop, List.length_take]; rfl)) ?_; (with_reducible refine (stream_fold.calls k (IntKind.u64.wrap (10723151780598845931 * t102)) 31 1 t103 _ A5.out).mono ?_); rintro e w' ⟨rfl, ⟨nd, rfl⟩⟩; refine ⟨_, rfl, ?_⟩))
  go_ret
  exact ⟨by first | rfl | (simp; done) | (simp [*]; done), by repeat (first | exact Drawn0.refl _ | apply Drawn0.step)⟩

end Go.Proofs.Ytlfjebbcmngihaa.PTr
