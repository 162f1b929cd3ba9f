/- The Go functions that this seat's statements reach: each with the plain function that it computes, for every input at which that function answers. Written by a program of the session (wip/tools/hprint.py) over the kit's printer; contracts that the printer does not take are proved by hand among them. -/
import Derived.Test.YtifehkjcccjccaaPRgx0
import Derived.Test.YtifehkjcccjccaaPRgx2
import Derived.Test.YtifehkjcccjccaaPRgx13
namespace Go.Proofs.Ytifehkjcccjccaa.PRg
open Go.RowKit Go.Proofs.YtifehkjcccjccaaW.PrintWords Go.Proofs.YtifehkjcccjccaaW.PrintLast Go.Proofs.YtifehkjcccjccaaW.PrintMore
attribute [local go_sem] max2_int min2_int max_two min_two max_three min_three max_four min_four   -- for this text's walks alone
set_option linter.unusedVariables false
set_option linter.unusedSimpArgs false

/-! ### symbolonlaw01_RingInverse: function 8 -/
def symbolonlaw01_RingInverse.j0 : Nat → Int → Bool → Int → Int → Int → Bool → Bool → Option (Bool)
  | 0, _, _, _, _, _, _, _ => none
  | k + 1, x0, x5, x6, x8, x10, x11, x59 => if x59 = true then (some false) else (if x11 = true then ((ring_Inverse.f k x6).bind fun bt376 => (if x5 = true then (if (IntKind.u64.wrap (x6 * x0)) = 1 then (if (Int.tmod x6 2) = 1 then (if x10 = (IntKind.u64.wrap (x6 * x8)) then (if bt376.2 = true then (some (bt376.1 == x0)) else (some false)) else (some false)) else (some false)) else (some false)) else (some false))) else (some x5))
def symbolonlaw01_RingInverse.f (k : Nat) (a0 : Int) (a1 : Int) : Option (Bool) := (symbolonlaw01_head.f k).bind fun t369 => ((ring_Inverse.f k a0).bind fun bt370 => ((ring_Inverse.f k a1).bind fun bt372 => ((ring_Inverse.f k (IntKind.u64.wrap (a0 * a1))).bind fun bt374 => (if (bt370.2 != ((Int.tmod a0 2) == 1)) = true then (symbolonlaw01_RingInverse.j0 k a0 t369 bt370.1 bt372.1 bt374.1 bt374.2 true) else (if (bt372.2 != ((Int.tmod a1 2) == 1)) = true then (symbolonlaw01_RingInverse.j0 k a0 t369 bt370.1 bt372.1 bt374.1 bt374.2 true) else (if bt370.2 = true then (if (bt374.2 != bt372.2) = true then (symbolonlaw01_RingInverse.j0 k a0 t369 bt370.1 bt372.1 bt374.1 bt374.2 true) else (symbolonlaw01_RingInverse.j0 k a0 t369 bt370.1 bt372.1 bt374.1 bt374.2 false)) else (if (bt374.2 != false) = true then (symbolonlaw01_RingInverse.j0 k a0 t369 bt370.1 bt372.1 bt374.1 bt374.2 true) else (symbolonlaw01_RingInverse.j0 k a0 t369 bt370.1 bt372.1 bt374.1 bt374.2 (bt370.1 != 0)))))))))
theorem symbolonlaw01_RingInverse.mono_l : ∀ k, (∀ y0 y1 y2 y3 y4 y5 y6, LeO (symbolonlaw01_RingInverse.j0 k y0 y1 y2 y3 y4 y5 y6) (symbolonlaw01_RingInverse.j0 (k + 1) y0 y1 y2 y3 y4 y5 y6))
  | 0 => fun _ _ _ _ _ _ _ r h => by simp [symbolonlaw01_RingInverse.j0] at h
  | k + 1 => by
    have ih0 := symbolonlaw01_RingInverse.mono_l k
    · intro y0 y1 y2 y3 y4 y5 y6
      unfold symbolonlaw01_RingInverse.j0
      repeat' first
      | (with_reducible exact ih0 _ _ _ _ _ _ _)
      | (with_reducible exact ring_Inverse.mono _ _)
      | (with_reducible exact symbolonlaw01_head.mono _)
      | (with_reducible exact LeO.refl _)
      | (with_reducible exact LeO.none _)
      | (with_reducible refine LeO.ite ?_ ?_)
      | (with_reducible refine LeO.bind ?_ (fun _ => ?_))
      | exact ih0 _ _ _ _ _ _ _
      | exact ring_Inverse.mono _ _
      | exact symbolonlaw01_head.mono _
      | exact LeO.none _
      | refine LeO.ite ?_ ?_
      | refine LeO.bind ?_ (fun _ => ?_)
theorem symbolonlaw01_RingInverse.mono : ∀ a0 a1 k, LeO (symbolonlaw01_RingInverse.f k a0 a1) (symbolonlaw01_RingInverse.f (k + 1) a0 a1) := by
  intro a0 a1 k
  have ih0 := symbolonlaw01_RingInverse.mono_l k
  unfold symbolonlaw01_RingInverse.f
  repeat' first
      | (with_reducible exact ih0 _ _ _ _ _ _ _)
      | (with_reducible exact ring_Inverse.mono _ _)
      | (with_reducible exact symbolonlaw01_head.mono _)
      | (with_reducible exact LeO.refl _)
      | (with_reducible exact LeO.none _)
      | (with_reducible refine LeO.ite ?_ ?_)
      | (with_reducible refine LeO.bind ?_ (fun _ => ?_))
      | exact ih0 _ _ _ _ _ _ _
      | exact ring_Inverse.mono _ _
      | exact symbolonlaw01_head.mono _
      | exact LeO.none _
      | refine LeO.ite ?_ ?_
      | refine LeO.bind ?_ (fun _ => ?_)
set_option maxHeartbeats 8000000 in
set_option maxRecDepth 100000 in
theorem symbolonlaw01_RingInverse.calls (k : Nat) (a0 : Int) (a1 : Int) (r : Bool) (w : World) (h : symbolonlaw01_RingInverse.f k a0 a1 = some r) :
    Calls Try.prog 8 #[.int .u64 a0, .int .u64 a1] w fun e w' => e = .returned (.bool r) ∧ Below w.heap.size w w' := by
  have HB := Aside0.mk (Below.refl w.heap.size w)
  have H : ((symbolonlaw01_head.f k).bind fun t369 => ((ring_Inverse.f k a0).bind fun bt370 => ((ring_Inverse.f k a1).bind fun bt372 => ((ring_Inverse.f k (IntKind.u64.wrap (a0 * a1))).bind fun bt374 => (if (bt370.2 != ((Int.tmod a0 2) == 1)) = true then (symbolonlaw01_RingInverse.j0 k a0 t369 bt370.1 bt372.1 bt374.1 bt374.2 true) else (if (bt372.2 != ((Int.tmod a1 2) == 1)) = true then (symbolonlaw01_RingInverse.j0 k a0 t369 bt370.1 bt372.1 bt374.1 bt374.2 true) else (if bt370.2 = true then (if (bt374.2 != bt372.2) = true then (symbolonlaw01_RingInverse.j0 k a0 t369 bt370.1 bt372.1 bt374.1 bt374.2 true) else (symbolonlaw01_RingInverse.j0 k a0 t369 bt370.1 bt372.1 bt374.1 bt374.2 false)) else (if (bt374.2 != false) = true then (symbolonlaw01_RingInverse.j0 k a0 t369 bt370.1 bt372.1 bt374.1 bt374.2 true) else (symbolonlaw01_RingInverse.j0 k a0 t369 bt370.1 bt372.1 bt374.1 bt374.2 (bt370.1 != 0)))))))))) = some r := h
  clear h
  replace H := Option.bind_eq_some_iff.mp H
  obtain ⟨t369, A30, H⟩ := H
  replace H : ((ring_Inverse.f k a0).bind fun bt370 => ((ring_Inverse.f k a1).bind fun bt372 => ((ring_Inverse.f k (IntKind.u64.wrap (a0 * a1))).bind fun bt374 => (if (bt370.2 != ((Int.tmod a0 2) == 1)) = true then (symbolonlaw01_RingInverse.j0 k a0 t369 bt370.1 bt372.1 bt374.1 bt374.2 true) else (if (bt372.2 != ((Int.tmod a1 2) == 1)) = true then (symbolonlaw01_RingInverse.j0 k a0 t369 bt370.1 bt372.1 bt374.1 bt374.2 true) else (if bt370.2 = true then (if (bt374.2 != bt372.2) = true then (symbolonlaw01_RingInverse.j0 k a0 t369 bt370.1 bt372.1 bt374.1 bt374.2 true) else (symbolonlaw01_RingInverse.j0 k a0 t369 bt370.1 bt372.1 bt374.1 bt374.2 false)) else (if (bt374.2 != false) = true then (symbolonlaw01_RingInverse.j0 k a0 t369 bt370.1 bt372.1 bt374.1 bt374.2 true) else (symbolonlaw01_RingInverse.j0 k a0 t369 bt370.1 bt372.1 bt374.1 bt374.2 (bt370.1 != 0))))))))) = some r := H
  have A3 := Aside0.mk A30
  clear A30
  replace H := Option.bind_eq_some_iff.mp H
  obtain ⟨⟨t370, t371⟩, A40, H⟩ := H
  replace H : ((ring_Inverse.f k a1).bind fun bt372 => ((ring_Inverse.f k (IntKind.u64.wrap (a0 * a1))).bind fun bt374 => (if (t371 != ((Int.tmod a0 2) == 1)) = true then (symbolonlaw01_RingInverse.j0 k a0 t369 t370 bt372.1 bt374.1 bt374.2 true) else (if (bt372.2 != ((Int.tmod a1 2) == 1)) = true then (symbolonlaw01_RingInverse.j0 k a0 t369 t370 bt372.1 bt374.1 bt374.2 true) else (if t371 = true then (if (bt374.2 != bt372.2) = true then (symbolonlaw01_RingInverse.j0 k a0 t369 t370 bt372.1 bt374.1 bt374.2 true) else (symbolonlaw01_RingInverse.j0 k a0 t369 t370 bt372.1 bt374.1 bt374.2 false)) else (if (bt374.2 != false) = true then (symbolonlaw01_RingInverse.j0 k a0 t369 t370 bt372.1 bt374.1 bt374.2 true) else (symbolonlaw01_RingInverse.j0 k a0 t369 t370 bt372.1 bt374.1 bt374.2 (t370 != 0)))))))) = some r := H
  have A4 := Aside0.mk A40
  clear A40
  replace H := Option.bind_eq_some_iff.mp H
  obtain ⟨⟨t372, t373⟩, A50, H⟩ := H
  replace H : ((ring_Inverse.f k (IntKind.u64.wrap (a0 * a1))).bind fun bt374 => (if (t371 != ((Int.tmod a0 2) == 1)) = true then (symbolonlaw01_RingInverse.j0 k a0 t369 t370 t372 bt374.1 bt374.2 true) else (if (t373 != ((Int.tmod a1 2) == 1)) = true then (symbolonlaw01_RingInverse.j0 k a0 t369 t370 t372 bt374.1 bt374.2 true) else (if t371 = true then (if (bt374.2 != t373) = true then (symbolonlaw01_RingInverse.j0 k a0 t369 t370 t372 bt374.1 bt374.2 true) else (symbolonlaw01_RingInverse.j0 k a0 t369 t370 t372 bt374.1 bt374.2 false)) else (if (bt374.2 != false) = true then (symbolonlaw01_RingInverse.j0 k a0 t369 t370 t372 bt374.1 bt374.2 true) else (symbolonlaw01_RingInverse.j0 k a0 t369 t370 t372 bt374.1 bt374.2 (t370 != 0))))))) = some r := H
  have A5 := Aside0.mk A50
  clear A50
  replace H := Option.bind_eq_some_iff.mp H
  obtain ⟨⟨t374, t375⟩, A60, H⟩ := H
  replace H : (if (t371 != ((Int.tmod a0 2) == 1)) = true then (symbolonlaw01_RingInverse.j0 k a0 t369 t370 t372 t374 t375 true) else (if (t373 != ((Int.tmod a1 2) == 1)) = true then (symbolonlaw01_RingInverse.j0 k a0 t369 t370 t372 t374 t375 true) else (if t371 = true then (if (t375 != t373) = true then (symbolonlaw01_RingInverse.j0 k a0 t369 t370 t372 t374 t375 true) else (symbolonlaw01_RingInverse.j0 k a0 t369 t370 t372 t374 t375 false)) else (if (t375 != false) = true then (symbolonlaw01_RingInverse.j0 k a0 t369 t370 t372 t374 t375 true) else (symbolonlaw01_RingInverse.j0 k a0 t369 t370 t372 t374 t375 (t370 != 0)))))) = some r := H
  have A6 := Aside0.mk A60
  clear A60
  have HC7 := Aside0.mk H
  clear H
  go_enter Try.func8, Try.ntmps8
  go_upto_region 5 with (first | ((with_reducible refine gate_callee (f := 16) rfl ?_); refine goesL_ (some 14) rfl rfl Try.func16 (by kernel_rfl) rfl #[] rfl (by (try simp only [List.map_toArray, List.map_cons, List.map_nil]); first | done | rfl | (simp only [List.length_drop, List.length_take]; rfl)) ?_; (with_reducible refine (symbolonlaw01_head.calls k  t369 _ A3.out).mono ?_); rintro e w8 ⟨rfl, hb⟩; refine ⟨_, rfl, ?_⟩; have n0_ := Aside0.mk (below_step (by repeat (first | (with_reducible first | exact HB.out | apply below_alloc | apply pw_below_drewN | apply below_drew1) | exact HB.out)) hb); clear HB; have HB := n0_; clear n0_; (try clear hb); (try clear hb2); (try clear hk); (try clear hi)) | ((with_reducible refine gate_callee (f := 18) rfl ?_); refine goesL_ (some 17) rfl rfl Try.func18 (by kernel_rfl) rfl #[.int .u64 a0] rfl (by (try simp only [List.map_toArray, List.map_cons, List.map_nil]); first | done | rfl | (simp only [List.length_drop, List.length_take]; rfl)) ?_; (with_reducible refine (ring_Inverse.calls k a0 t370 t371 _ A4.out).mono ?_); rintro e w' ⟨rfl, ⟨nd, rfl⟩⟩; refine ⟨_, rfl, ?_⟩) | ((with_reducible refine gate_callee (f := 18) rfl ?_); refine goesL_ (some 22) rfl rfl Try.func18 (by kernel_rfl) rfl #[.int .u64 a1] rfl (by (try simp only [List.map_toArray, List.map_cons, List.map_nil]); first | done | rfl | (simp only [List.length_drop, List.length_take]; rfl)) ?_; (with_reducible refine (ring_Inverse.calls k a1 t372 t373 _ A5.out).mono ?_); rintro e w' ⟨rfl, ⟨nd, rfl⟩⟩; refine ⟨_, rfl, ?_⟩) | ((with_reducible refine gate_callee (f := 18) rfl ?_); refine goesL_ (some 29) rfl rfl Try.func18 (by kernel_rfl) rfl #[.int .u64 (IntKind.u64.wrap (a0 * a1))] rfl (by (try simp only [List.map_toArray, List.map_cons, List.map_nil]); first | done | rfl | (simp only [List.length_drop, List.length_take]; rfl)) ?_; (with_reducible refine (ring_Inverse.calls k (IntKind.u64.wrap (a0 * a1)) t374 t375 _ A6.out).mono ?_); rintro e w' ⟨rfl, ⟨nd, rfl⟩⟩; refine ⟨_, rfl, ?_⟩))
  (try simp only [Act.put, List.setIfInBounds_toArray, List.set_cons_zero, List.set_cons_succ])
  go_cut [59] (fun v59 wc => ∃ (kq : Nat) (x59_6 : Bool), v59 = .bool x59_6 ∧ Aside0 (symbolonlaw01_RingInverse.j0 kq a0 t369 t370 t372 t374 t375 x59_6 = some r) ∧ Aside0 (kq ≤ k) ∧ Aside0 (Below w.heap.size w wc))
  case first =>
    have H := HC7.out
    clear HC7
    by_cases c9 : (t371 != ((Int.tmod a0 2) == 1)) = true
    · rw [if_pos c9] at H
      have c9b0 : (t371 != ((Int.tmod a0 2) == 1)) = true := c9
      (try (have c9b1 : decide (t371 = ((Int.tmod a0 2) == 1)) = false := by simpa using c9))
      (try (have c9b2 : (t371 == ((Int.tmod a0 2) == 1)) = false := by simpa using c9))
      (try (have c9b3 : ¬ (t371 = ((Int.tmod a0 2) == 1)) := by simpa using c9))
      clear c9
      (first | rw [c9b0] | (simp only [i64_w, i32_w]; rw [c9b0]) | skip)
      have H' := Aside0.mk H
      clear H
      go_wp2
      go_meet
      case rel => exact ⟨_, (true), (by first | rfl | (simp; done) | (simp [*]; done)), H', ⟨by first | omega | exact Nat.le_refl _⟩, ⟨by repeat (first | (with_reducible first | exact HB.out | apply below_alloc | apply pw_below_drewN | apply below_drew1) | exact HB.out)⟩⟩
    · rw [if_neg c9] at H
      have c9b0 : (t371 != ((Int.tmod a0 2) == 1)) = false := by simpa using c9
      (try (have c9b1 : decide (t371 = ((Int.tmod a0 2) == 1)) = true := by simpa using c9))
      (try (have c9b2 : (t371 == ((Int.tmod a0 2) == 1)) = true := by simpa using c9))
      clear c9
      (first | rw [c9b0] | (simp only [i64_w, i32_w]; rw [c9b0]) | skip)
      by_cases c10 : (t373 != ((Int.tmod a1 2) == 1)) = true
      · rw [if_pos c10] at H
        have c10b0 : (t373 != ((Int.tmod a1 2) == 1)) = true := c10
        (try (have c10b1 : decide (t373 = ((Int.tmod a1 2) == 1)) = false := by simpa using c10))
        (try (have c10b2 : (t373 == ((Int.tmod a1 2) == 1)) = false := by simpa using c10))
        (try (have c10b3 : ¬ (t373 = ((Int.tmod a1 2) == 1)) := by simpa using c10))
        clear c10
        have H' := Aside0.mk H
        clear H
        go_wp2
        go_meet
        case rel => exact ⟨_, (true), (by first | rfl | (simp; done) | (simp [*]; done)), H', ⟨by first | omega | exact Nat.le_refl _⟩, ⟨by repeat (first | (with_reducible first | exact HB.out | apply below_alloc | apply pw_below_drewN | apply below_drew1) | exact HB.out)⟩⟩
      · rw [if_neg c10] at H
        have c10b0 : (t373 != ((Int.tmod a1 2) == 1)) = false := by simpa using c10
        (try (have c10b1 : decide (t373 = ((Int.tmod a1 2) == 1)) = true := by simpa using c10))
        (try (have c10b2 : (t373 == ((Int.tmod a1 2) == 1)) = true := by simpa using c10))
        clear c10
        by_cases c11 : t371 = true
        · subst c11
          have H1 : (if (t375 != t373) = true then (symbolonlaw01_RingInverse.j0 k a0 t369 t370 t372 t374 t375 true) else (symbolonlaw01_RingInverse.j0 k a0 t369 t370 t372 t374 t375 false)) = some r := by rw [if_pos rfl] at H; exact H
          clear H
          have H := H1
          clear H1
          by_cases c12 : (t375 != t373) = true
          · rw [if_pos c12] at H
            have c12b0 : (t375 != t373) = true := c12
            (try (have c12b1 : decide (t375 = t373) = false := by simpa using c12))
            (try (have c12b2 : (t375 == t373) = false := by simpa using c12))
            (try (have c12b3 : ¬ (t375 = t373) := by simpa using c12))
            clear c12
            have H' := Aside0.mk H
            clear H
            go_wp2
            go_meet
            case rel => exact ⟨_, (true), (by first | rfl | (simp; done) | (simp [*]; done)), H', ⟨by first | omega | exact Nat.le_refl _⟩, ⟨by repeat (first | (with_reducible first | exact HB.out | apply below_alloc | apply pw_below_drewN | apply below_drew1) | exact HB.out)⟩⟩
          · rw [if_neg c12] at H
            have c12b0 : (t375 != t373) = false := by simpa using c12
            (try (have c12b1 : decide (t375 = t373) = true := by simpa using c12))
            (try (have c12b2 : (t375 == t373) = true := by simpa using c12))
            clear c12
            have H' := Aside0.mk H
            clear H
            go_wp2
            go_meet
            case rel => exact ⟨_, (false), (by first | rfl | (simp; done) | (simp [*]; done)), H', ⟨by first | omega | exact Nat.le_refl _⟩, ⟨by repeat (first | (with_reducible first | exact HB.out | apply below_alloc | apply pw_below_drewN | apply below_drew1) | exact HB.out)⟩⟩
        · replace c11 := Bool.eq_false_iff.mpr c11
          subst c11
          have H1 : (if (t375 != false) = true then (symbolonlaw01_RingInverse.j0 k a0 t369 t370 t372 t374 t375 true) else (symbolonlaw01_RingInverse.j0 k a0 t369 t370 t372 t374 t375 (t370 != 0))) = some r := by rw [if_neg (show ¬ (false = true) by decide)] at H; exact H
          clear H
          have H := H1
          clear H1
          by_cases c13 : (t375 != false) = true
          · rw [if_pos c13] at H
            have c13b0 : (t375 != false) = true := c13
            (try (have c13b1 : decide (t375 = false) = false := by simpa using c13))
            (try (have c13b2 : (t375 == false) = false := by simpa using c13))
            (try (have c13b3 : ¬ (t375 = false) := by simpa using c13))
            clear c13
            have H' := Aside0.mk H
            clear H
            go_wp2
            go_meet
            case rel => exact ⟨_, (true), (by first | rfl | (simp; done) | (simp [*]; done)), H', ⟨by first | omega | exact Nat.le_refl _⟩, ⟨by repeat (first | (with_reducible first | exact HB.out | apply below_alloc | apply pw_below_drewN | apply below_drew1) | exact HB.out)⟩⟩
          · rw [if_neg c13] at H
            have c13b0 : (t375 != false) = false := by simpa using c13
            (try (have c13b1 : decide (t375 = false) = true := by simpa using c13))
            (try (have c13b2 : (t375 == false) = true := by simpa using c13))
            clear c13
            have H' := Aside0.mk H
            clear H
            go_wp2
            go_meet
            case rel => exact ⟨_, ((t370 != 0)), (by first | rfl | (simp; done) | (simp [*]; done)), H', ⟨by first | omega | exact Nat.le_refl _⟩, ⟨by repeat (first | (with_reducible first | exact HB.out | apply below_alloc | apply pw_below_drewN | apply below_drew1) | exact HB.out)⟩⟩
  case rest =>
    clear HC7
    try clear c1
    try clear p2
    try clear c8
    try clear c9
    try clear c9b0
    try clear c9b1
    try clear c9b2
    try clear c10
    try clear c10b0
    try clear c10b1
    try clear c10b2
    try clear c11
    try clear c12
    try clear c12b0
    try clear c12b1
    try clear c12b2
    try clear c13
    try clear c13b0
    try clear c13b1
    try clear c13b2
    obtain ⟨kq, x59_6, rfl, HA, HJ6, HB⟩ := hcut
    cases kq with
    | zero => exact absurd HA.out (by simp [symbolonlaw01_RingInverse.j0])
    | succ kj6 =>
      have H := HA.out
      clear HA
      simp only [symbolonlaw01_RingInverse.j0] at H
      by_cases c14 : x59_6 = true
      · subst c14
        have H1 : (some false) = some r := by rw [if_pos rfl] at H; exact H
        clear H
        have H := H1
        clear H1
        obtain rfl := Option.some.inj H
        go_wp2
        go_ret
        exact ⟨by first | rfl | (simp [errW_none, errW_some] <;> rfl) | (simp [*, errW_none, errW_some] <;> rfl), by repeat (first | (with_reducible first | exact HB.out | apply below_alloc | apply pw_below_drewN | apply below_drew1) | exact HB.out)⟩
      · replace c14 := Bool.eq_false_iff.mpr c14
        subst c14
        have H1 : (if t375 = true then ((ring_Inverse.f kj6 t370).bind fun bt376 => (if t369 = true then (if (IntKind.u64.wrap (t370 * a0)) = 1 then (if (Int.tmod t370 2) = 1 then (if t374 = (IntKind.u64.wrap (t370 * t372)) then (if bt376.2 = true then (some (bt376.1 == a0)) else (some false)) else (some false)) else (some false)) else (some false)) else (some false))) else (some t369)) = some r := by rw [if_neg (show ¬ (false = true) by decide)] at H; exact H
        clear H
        have H := H1
        clear H1
        by_cases c15 : t375 = true
        · subst c15
          have H1 : ((ring_Inverse.f kj6 t370).bind fun bt376 => (if t369 = true then (if (IntKind.u64.wrap (t370 * a0)) = 1 then (if (Int.tmod t370 2) = 1 then (if t374 = (IntKind.u64.wrap (t370 * t372)) then (if bt376.2 = true then (some (bt376.1 == a0)) else (some false)) else (some false)) else (some false)) else (some false)) else (some false))) = some r := by rw [if_pos rfl] at H; exact H
          clear H
          have H := H1
          clear H1
          replace H := Option.bind_eq_some_iff.mp H
          obtain ⟨⟨t376, t377⟩, A160, H⟩ := H
          replace H : (if t369 = true then (if (IntKind.u64.wrap (t370 * a0)) = 1 then (if (Int.tmod t370 2) = 1 then (if t374 = (IntKind.u64.wrap (t370 * t372)) then (if t377 = true then (some (t376 == a0)) else (some false)) else (some false)) else (some false)) else (some false)) else (some false)) = some r := H
          have A16 := Aside0.mk A160
          clear A160
          by_cases c17 : t369 = true
          · subst c17
            have H1 : (if (IntKind.u64.wrap (t370 * a0)) = 1 then (if (Int.tmod t370 2) = 1 then (if t374 = (IntKind.u64.wrap (t370 * t372)) then (if t377 = true then (some (t376 == a0)) else (some false)) else (some false)) else (some false)) else (some false)) = some r := by rw [if_pos rfl] at H; exact H
            clear H
            have H := H1
            clear H1
            by_cases c18 : (IntKind.u64.wrap (t370 * a0)) = 1
            · rw [if_pos c18] at H
              have c18b0 : ((IntKind.u64.wrap (t370 * a0)) == 1) = true := beq_iff_eq.mpr c18
              have c18b1 : ((IntKind.u64.wrap (t370 * a0)) != 1) = false := bne_eq_false_iff_eq.mpr c18
              clear c18
              by_cases c19 : (Int.tmod t370 2) = 1
              · rw [if_pos c19] at H
                have c19b0 : ((Int.tmod t370 2) == 1) = true := beq_iff_eq.mpr c19
                have c19b1 : ((Int.tmod t370 2) != 1) = false := bne_eq_false_iff_eq.mpr c19
                clear c19
                by_cases c20 : t374 = (IntKind.u64.wrap (t370 * t372))
                · rw [if_pos c20] at H
                  have c20b0 : (t374 == (IntKind.u64.wrap (t370 * t372))) = true := beq_iff_eq.mpr c20
                  have c20b1 : (t374 != (IntKind.u64.wrap (t370 * t372))) = false := bne_eq_false_iff_eq.mpr c20
                  clear c20
                  by_cases c21 : t377 = true
                  · subst c21
                    have H1 : (some (t376 == a0)) = some r := by rw [if_pos rfl] at H; exact H
                    clear H
                    have H := H1
                    clear H1
                    obtain rfl := Option.some.inj H
                    go_wp2_with (first | ((with_reducible refine gate_callee (f := 18) rfl ?_); refine goesL_ (some 65) rfl rfl Try.func18 (by kernel_rfl) rfl #[.int .u64 t370] rfl (by (try simp only [List.map_toArray, List.map_cons, List.map_nil]); first | done | rfl | (simp only [List.length_drop, List.length_take]; rfl)) ?_; (with_reducible refine (ring_Inverse.calls kj6 t370 t376 true _ A16.out).mono ?_); rintro e w' ⟨rfl, ⟨nd, rfl⟩⟩; refine ⟨_, rfl, ?_⟩))
                    go_ret
                    exact ⟨by first | rfl | (simp [errW_none, errW_some] <;> rfl) | (simp [*, errW_none, errW_some] <;> rfl), by repeat (first | (with_reducible first | exact HB.out | apply below_alloc | apply pw_below_drewN | apply below_drew1) | exact HB.out)⟩
                  · replace c21 := Bool.eq_false_iff.mpr c21
                    subst c21
                    have H1 : (some false) = some r := by rw [if_neg (show ¬ (false = true) by decide)] at H; exact H
                    clear H
                    have H := H1
                    clear H1
                    obtain rfl := Option.some.inj H
                    go_wp2_with (first | ((with_reducible refine gate_callee (f := 18) rfl ?_); refine goesL_ (some 65) rfl rfl Try.func18 (by kernel_rfl) rfl #[.int .u64 t370] rfl (by (try simp only [List.map_toArray, List.map_cons, List.map_nil]); first | done | rfl | (simp only [List.length_drop, List.length_take]; rfl)) ?_; (with_reducible refine (ring_Inverse.calls kj6 t370 t376 false _ A16.out).mono ?_); rintro e w' ⟨rfl, ⟨nd, rfl⟩⟩; refine ⟨_, rfl, ?_⟩))
                    go_ret
                    exact ⟨by first | rfl | (simp [errW_none, errW_some] <;> rfl) | (simp [*, errW_none, errW_some] <;> rfl), by repeat (first | (with_reducible first | exact HB.out | apply below_alloc | apply pw_below_drewN | apply below_drew1) | exact HB.out)⟩
                · rw [if_neg c20] at H
                  have c20b0 : (t374 == (IntKind.u64.wrap (t370 * t372))) = false := beq_eq_false_iff_ne.mpr c20
                  have c20b1 : (t374 != (IntKind.u64.wrap (t370 * t372))) = true := bne_iff_ne.mpr c20
                  obtain rfl := Option.some.inj H
                  go_wp2_with (first | ((with_reducible refine gate_callee (f := 18) rfl ?_); refine goesL_ (some 65) rfl rfl Try.func18 (by kernel_rfl) rfl #[.int .u64 t370] rfl (by (try simp only [List.map_toArray, List.map_cons, List.map_nil]); first | done | rfl | (simp only [List.length_drop, List.length_take]; rfl)) ?_; (with_reducible refine (ring_Inverse.calls kj6 t370 t376 t377 _ A16.out).mono ?_); rintro e w' ⟨rfl, ⟨nd, rfl⟩⟩; refine ⟨_, rfl, ?_⟩))
                  go_ret
                  exact ⟨by first | rfl | (simp [errW_none, errW_some] <;> rfl) | (simp [*, errW_none, errW_some] <;> rfl), by repeat (first | (with_reducible first | exact HB.out | apply below_alloc | apply pw_below_drewN | apply below_drew1) | exact HB.out)⟩
              · rw [if_neg c19] at H
                have c19b0 : ((Int.tmod t370 2) == 1) = false := beq_eq_false_iff_ne.mpr c19
                have c19b1 : ((Int.tmod t370 2) != 1) = true := bne_iff_ne.mpr c19
                obtain rfl := Option.some.inj H
                go_wp2_with (first | ((with_reducible refine gate_callee (f := 18) rfl ?_); refine goesL_ (some 65) rfl rfl Try.func18 (by kernel_rfl) rfl #[.int .u64 t370] rfl (by (try simp only [List.map_toArray, List.map_cons, List.map_nil]); first | done | rfl | (simp only [List.length_drop, List.length_take]; rfl)) ?_; (with_reducible refine (ring_Inverse.calls kj6 t370 t376 t377 _ A16.out).mono ?_); rintro e w' ⟨rfl, ⟨nd, rfl⟩⟩; refine ⟨_, rfl, ?_⟩))
                go_ret
                exact ⟨by first | rfl | (simp [errW_none, errW_some] <;> rfl) | (simp [*, errW_none, errW_some] <;> rfl), by repeat (first | (with_reducible first | exact HB.out | apply below_alloc | apply pw_below_drewN | apply below_drew1) | exact HB.out)⟩
            · rw [if_neg c18] at H
              have c18b0 : ((IntKind.u64.wrap (t370 * a0)) == 1) = false := beq_eq_false_iff_ne.mpr c18
              have c18b1 : ((IntKind.u64.wrap (t370 * a0)) != 1) = true := bne_iff_ne.mpr c18
              obtain rfl := Option.some.inj H
              go_wp2_with (first | ((with_reducible refine gate_callee (f := 18) rfl ?_); refine goesL_ (some 65) rfl rfl Try.func18 (by kernel_rfl) rfl #[.int .u64 t370] rfl (by (try simp only [List.map_toArray, List.map_cons, List.map_nil]); first | done | rfl | (simp only [List.length_drop, List.length_take]; rfl)) ?_; (with_reducible refine (ring_Inverse.calls kj6 t370 t376 t377 _ A16.out).mono ?_); rintro e w' ⟨rfl, ⟨nd, rfl⟩⟩; refine ⟨_, rfl, ?_⟩))
              go_ret
              exact ⟨by first | rfl | (simp [errW_none, errW_some] <;> rfl) | (simp [*, errW_none, errW_some] <;> rfl), by repeat (first | (with_reducible first | exact HB.out | apply below_alloc | apply pw_below_drewN | apply below_drew1) | exact HB.out)⟩
          · replace c17 := Bool.eq_false_iff.mpr c17
            subst c17
            have H1 : (some false) = some r := by rw [if_neg (show ¬ (false = true) by decide)] at H; exact H
            clear H
            have H := H1
            clear H1
            obtain rfl := Option.some.inj H
            go_wp2_with (first | ((with_reducible refine gate_callee (f := 18) rfl ?_); refine goesL_ (some 65) rfl rfl Try.func18 (by kernel_rfl) rfl #[.int .u64 t370] rfl (by (try simp only [List.map_toArray, List.map_cons, List.map_nil]); first | done | rfl | (simp only [List.length_drop, List.length_take]; rfl)) ?_; (with_reducible refine (ring_Inverse.calls kj6 t370 t376 t377 _ A16.out).mono ?_); rintro e w' ⟨rfl, ⟨nd, rfl⟩⟩; refine ⟨_, rfl, ?_⟩))
            go_ret
            exact ⟨by first | rfl | (simp [errW_none, errW_some] <;> rfl) | (simp [*, errW_none, errW_some] <;> rfl), by repeat (first | (with_reducible first | exact HB.out | apply below_alloc | apply pw_below_drewN | apply below_drew1) | exact HB.out)⟩
        · replace c15 := Bool.eq_false_iff.mpr c15
          subst c15
          have H1 : (some t369) = some r := by rw [if_neg (show ¬ (false = true) by decide)] at H; exact H
          clear H
          have H := H1
          clear H1
          obtain rfl := Option.some.inj H
          go_wp2
          go_ret
          exact ⟨by first | rfl | (simp [errW_none, errW_some] <;> rfl) | (simp [*, errW_none, errW_some] <;> rfl), by repeat (first | (with_reducible first | exact HB.out | apply below_alloc | apply pw_below_drewN | apply below_drew1) | exact HB.out)⟩

/-- THE ONE PURE STATEMENT of symbolonlaw01_RingInverse: yours. -/
def symbolonlaw01_RingInverse.Pure : Prop := ∀ (a0 : Int) (a1 : Int), (Lit.int .u64 a0).wf = true → (Lit.int .u64 a1).wf = true → ∃ k, symbolonlaw01_RingInverse.f k a0 a1 = some true
theorem symbolonlaw01_RingInverse.walk (P : symbolonlaw01_RingInverse.Pure) (a0 : Int) (a1 : Int) (w : World) (w0 : (Lit.int .u64 a0).wf = true) (w1 : (Lit.int .u64 a1).wf = true) :
    Calls Try.prog 8 #[.int .u64 a0, .int .u64 a1] w fun e w' => e = .returned (.bool true) ∧ Below w.heap.size w w' := by
  obtain ⟨k, h⟩ := P a0 a1 w0 w1
  refine (symbolonlaw01_RingInverse.calls k a0 a1 true w h).mono ?_
  rintro e w' ⟨rfl, hd⟩
  exact ⟨rfl, hd⟩

end Go.Proofs.Ytifehkjcccjccaa.PRg
