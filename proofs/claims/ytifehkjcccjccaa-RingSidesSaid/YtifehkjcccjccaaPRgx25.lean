/- The Go functions that this seat's statements reach: each with the plain function that it computes, for every input at which that function answers. Written by a program of the session (wip/tools/hprint.py) over the kit's printer; contracts that the printer does not take are proved by hand among them. -/
import Derived.Test.YtifehkjcccjccaaPRgx0
import Derived.Test.YtifehkjcccjccaaPRgx2
import Derived.Test.YtifehkjcccjccaaPRgx5
import Derived.Test.YtifehkjcccjccaaPRgx7
import Derived.Test.YtifehkjcccjccaaPRgx10
import Derived.Test.YtifehkjcccjccaaPRgx11
import Derived.Test.YtifehkjcccjccaaPRgx12
import Derived.Test.YtifehkjcccjccaaPRgx13
namespace Go.Proofs.Ytifehkjcccjccaa.PRg
open Go.RowKit Go.Proofs.YtifehkjcccjccaaW.PrintWords Go.Proofs.YtifehkjcccjccaaW.PrintLast Go.Proofs.YtifehkjcccjccaaW.PrintMore
attribute [local go_sem] max2_int min2_int max_two min_two max_three min_three max_four min_four   -- for this text's walks alone
set_option linter.unusedVariables false
set_option linter.unusedSimpArgs false

/-! ### symbolonlaw01_RingSides: function 9 -/
def symbolonlaw01_RingSides.f (k : Nat) (l0 : List Int) (l1 : List Int) : Option (Bool) := (symbolonlaw01_head.f k).bind fun t378 => (if (mn (l0.length : Int) (l1.length : Int)) > 3000 then (some t378) else (if 0 ≤ (mn (l0.length : Int) (l1.length : Int)) then (if (mn (l0.length : Int) (l1.length : Int)) ≤ (l0.length : Int) then (if (mn (l0.length : Int) (l1.length : Int)) ≤ (l1.length : Int) then ((ring_Sub.f k (l0.take ((mn (l0.length : Int) (l1.length : Int)) : Int).toNat) (l1.take ((mn (l0.length : Int) (l1.length : Int)) : Int).toNat)).bind fun t381 => ((ring_Sub.f k (l1.take ((mn (l0.length : Int) (l1.length : Int)) : Int).toNat) (l0.take ((mn (l0.length : Int) (l1.length : Int)) : Int).toNat)).bind fun t384 => (if t378 = true then ((ring_Add.f k t381 t384).bind fun t387 => ((ring_Sum.f k t387).bind fun t390 => (if t390 = 0 then ((ring_Scale.f k 18446744073709551615 t381).bind fun t391 => ((symbolonref01_Same.f k t391 t384).bind fun t394 => (if t394 = true then ((ring_Add.f k t381 t384).bind fun t395 => ((ring_Scale.f k 0 (l0.take ((mn (l0.length : Int) (l1.length : Int)) : Int).toNat)).bind fun t398 => ((symbolonref01_Same.f k t395 t398).bind fun t401 => (if t401 = true then ((ring_Sum.f k t381).bind fun t402 => ((ring_Sum.f k (l0.take ((mn (l0.length : Int) (l1.length : Int)) : Int).toNat)).bind fun t403 => ((ring_Sum.f k (l1.take ((mn (l0.length : Int) (l1.length : Int)) : Int).toNat)).bind fun t404 => (if t402 = (IntKind.u64.wrap (t403 - t404)) then ((ring_Dot.f k t381 t381).bind fun t405 => ((ring_Dot.f k t384 t384).bind fun t406 => (some (t405 == t406)))) else (none))))) else (none))))) else (none)))) else (none)))) else (none)))) else (none)) else (none)) else (none)))
theorem symbolonlaw01_RingSides.mono : ∀ a0 a1 k, LeO (symbolonlaw01_RingSides.f k a0 a1) (symbolonlaw01_RingSides.f (k + 1) a0 a1) := by
  intro a0 a1 k
  unfold symbolonlaw01_RingSides.f
  repeat' first
      | (with_reducible exact ring_Add.mono _ _ _)
      | (with_reducible exact ring_Dot.mono _ _ _)
      | (with_reducible exact ring_Scale.mono _ _ _)
      | (with_reducible exact ring_Sub.mono _ _ _)
      | (with_reducible exact ring_Sum.mono _ _)
      | (with_reducible exact symbolonlaw01_head.mono _)
      | (with_reducible exact symbolonref01_Same.mono _ _ _)
      | (with_reducible exact LeO.refl _)
      | (with_reducible exact LeO.none _)
      | (with_reducible refine LeO.ite ?_ ?_)
      | (with_reducible refine LeO.bind ?_ (fun _ => ?_))
      | exact ring_Add.mono _ _ _
      | exact ring_Dot.mono _ _ _
      | exact ring_Scale.mono _ _ _
      | exact ring_Sub.mono _ _ _
      | exact ring_Sum.mono _ _
      | exact symbolonlaw01_head.mono _
      | exact symbolonref01_Same.mono _ _ _
      | exact LeO.none _
      | refine LeO.ite ?_ ?_
      | refine LeO.bind ?_ (fun _ => ?_)
set_option maxHeartbeats 8000000 in
set_option maxRecDepth 100000 in
theorem symbolonlaw01_RingSides.calls (k : Nat) (A0 : Option Addr) (c0 : Nat) (l0 : List Int) (A1 : Option Addr) (c1 : Nat) (l1 : List Int) (r : Bool) (w : World) (hr0 : Kd.C (Kd.int .u64) w A0 l0.length l0) (hc0 : l0.length ≤ c0) (hr1 : Kd.C (Kd.int .u64) w A1 l1.length l1) (hc1 : l1.length ≤ c1) (h : symbolonlaw01_RingSides.f k l0 l1 = some r) :
    Calls Try.prog 9 #[.slice A0 l0.length c0, .slice A1 l1.length c1] w fun e w' => e = .returned (.bool r) ∧ Below w.heap.size w w' := by
  have HR0 := Aside0.mk hr0
  have HC0 := Aside0.mk hc0
  clear hr0 hc0
  have HR1 := Aside0.mk hr1
  have HC1 := Aside0.mk hc1
  clear hr1 hc1
  have HB := Aside0.mk (Below.refl w.heap.size w)
  have H : ((symbolonlaw01_head.f k).bind fun t378 => (if (mn (l0.length : Int) (l1.length : Int)) > 3000 then (some t378) else (if 0 ≤ (mn (l0.length : Int) (l1.length : Int)) then (if (mn (l0.length : Int) (l1.length : Int)) ≤ (l0.length : Int) then (if (mn (l0.length : Int) (l1.length : Int)) ≤ (l1.length : Int) then ((ring_Sub.f k (l0.take ((mn (l0.length : Int) (l1.length : Int)) : Int).toNat) (l1.take ((mn (l0.length : Int) (l1.length : Int)) : Int).toNat)).bind fun t381 => ((ring_Sub.f k (l1.take ((mn (l0.length : Int) (l1.length : Int)) : Int).toNat) (l0.take ((mn (l0.length : Int) (l1.length : Int)) : Int).toNat)).bind fun t384 => (if t378 = true then ((ring_Add.f k t381 t384).bind fun t387 => ((ring_Sum.f k t387).bind fun t390 => (if t390 = 0 then ((ring_Scale.f k 18446744073709551615 t381).bind fun t391 => ((symbolonref01_Same.f k t391 t384).bind fun t394 => (if t394 = true then ((ring_Add.f k t381 t384).bind fun t395 => ((ring_Scale.f k 0 (l0.take ((mn (l0.length : Int) (l1.length : Int)) : Int).toNat)).bind fun t398 => ((symbolonref01_Same.f k t395 t398).bind fun t401 => (if t401 = true then ((ring_Sum.f k t381).bind fun t402 => ((ring_Sum.f k (l0.take ((mn (l0.length : Int) (l1.length : Int)) : Int).toNat)).bind fun t403 => ((ring_Sum.f k (l1.take ((mn (l0.length : Int) (l1.length : Int)) : Int).toNat)).bind fun t404 => (if t402 = (IntKind.u64.wrap (t403 - t404)) then ((ring_Dot.f k t381 t381).bind fun t405 => ((ring_Dot.f k t384 t384).bind fun t406 => (some (t405 == t406)))) else (none))))) else (none))))) else (none)))) else (none)))) else (none)))) else (none)) else (none)) else (none)))) = some r := h
  clear h
  replace H := Option.bind_eq_some_iff.mp H
  obtain ⟨t378, A30, H⟩ := H
  replace H : (if (mn (l0.length : Int) (l1.length : Int)) > 3000 then (some t378) else (if 0 ≤ (mn (l0.length : Int) (l1.length : Int)) then (if (mn (l0.length : Int) (l1.length : Int)) ≤ (l0.length : Int) then (if (mn (l0.length : Int) (l1.length : Int)) ≤ (l1.length : Int) then ((ring_Sub.f k (l0.take ((mn (l0.length : Int) (l1.length : Int)) : Int).toNat) (l1.take ((mn (l0.length : Int) (l1.length : Int)) : Int).toNat)).bind fun t381 => ((ring_Sub.f k (l1.take ((mn (l0.length : Int) (l1.length : Int)) : Int).toNat) (l0.take ((mn (l0.length : Int) (l1.length : Int)) : Int).toNat)).bind fun t384 => (if t378 = true then ((ring_Add.f k t381 t384).bind fun t387 => ((ring_Sum.f k t387).bind fun t390 => (if t390 = 0 then ((ring_Scale.f k 18446744073709551615 t381).bind fun t391 => ((symbolonref01_Same.f k t391 t384).bind fun t394 => (if t394 = true then ((ring_Add.f k t381 t384).bind fun t395 => ((ring_Scale.f k 0 (l0.take ((mn (l0.length : Int) (l1.length : Int)) : Int).toNat)).bind fun t398 => ((symbolonref01_Same.f k t395 t398).bind fun t401 => (if t401 = true then ((ring_Sum.f k t381).bind fun t402 => ((ring_Sum.f k (l0.take ((mn (l0.length : Int) (l1.length : Int)) : Int).toNat)).bind fun t403 => ((ring_Sum.f k (l1.take ((mn (l0.length : Int) (l1.length : Int)) : Int).toNat)).bind fun t404 => (if t402 = (IntKind.u64.wrap (t403 - t404)) then ((ring_Dot.f k t381 t381).bind fun t405 => ((ring_Dot.f k t384 t384).bind fun t406 => (some (t405 == t406)))) else (none))))) else (none))))) else (none)))) else (none)))) else (none)))) else (none)) else (none)) else (none))) = some r := H
  have A3 := Aside0.mk A30
  clear A30
  obtain ⟨ji4, hji4⟩ : ∃ j_ : Int, (mn (l0.length : Int) (l1.length : Int)) = j_ := ⟨_, rfl⟩
  replace H : (if (ji4) > 3000 then (some t378) else (if 0 ≤ (ji4) then (if (ji4) ≤ (l0.length : Int) then (if (ji4) ≤ (l1.length : Int) then ((ring_Sub.f k (l0.take ((ji4) : Int).toNat) (l1.take ((ji4) : Int).toNat)).bind fun t381 => ((ring_Sub.f k (l1.take ((ji4) : Int).toNat) (l0.take ((ji4) : Int).toNat)).bind fun t384 => (if t378 = true then ((ring_Add.f k t381 t384).bind fun t387 => ((ring_Sum.f k t387).bind fun t390 => (if t390 = 0 then ((ring_Scale.f k 18446744073709551615 t381).bind fun t391 => ((symbolonref01_Same.f k t391 t384).bind fun t394 => (if t394 = true then ((ring_Add.f k t381 t384).bind fun t395 => ((ring_Scale.f k 0 (l0.take ((ji4) : Int).toNat)).bind fun t398 => ((symbolonref01_Same.f k t395 t398).bind fun t401 => (if t401 = true then ((ring_Sum.f k t381).bind fun t402 => ((ring_Sum.f k (l0.take ((ji4) : Int).toNat)).bind fun t403 => ((ring_Sum.f k (l1.take ((ji4) : Int).toNat)).bind fun t404 => (if t402 = (IntKind.u64.wrap (t403 - t404)) then ((ring_Dot.f k t381 t381).bind fun t405 => ((ring_Dot.f k t384 t384).bind fun t406 => (some (t405 == t406)))) else (none))))) else (none))))) else (none)))) else (none)))) else (none)))) else (none)) else (none)) else (none))) = some r := by first | (rw [hji4] at H; exact H) | (simp only [hji4] at H ⊢; exact H)
  obtain ⟨yc2, hyc2⟩ : ∃ y_, y_ = (l1.take ((ji4) : Int).toNat) := ⟨_, rfl⟩
  rw [← hyc2] at H
  have Nyc2 := Aside0.mk hyc2
  clear hyc2
  obtain ⟨yc1, hyc1⟩ : ∃ y_, y_ = (l0.take ((ji4) : Int).toNat) := ⟨_, rfl⟩
  rw [← hyc1] at H
  have Nyc1 := Aside0.mk hyc1
  clear hyc1
  (try rw [hji4] at A3)
  (try (have hji4l : 0 ≤ ji4 := by (rw [← hji4]; unfold mn; (repeat' split) <;> omega)))
  (try (have hji4m : 0 ≤ ji4 := by omega))
  have hji4_ : (if (l1.length : Int) < (l0.length : Int) then (l1.length : Int) else (l0.length : Int)) = ji4 := hji4
  have hji4_n : (if l1.length < l0.length then (l1.length : Int) else (l0.length : Int)) = ji4 := by rw [← hji4_]; simp only [Int.ofNat_lt]
  by_cases c5 : (ji4) > 3000
  · rw [if_pos c5] at H
    have c5b0 : decide (3000 < (ji4)) = true := decide_eq_true c5
    clear c5
    obtain rfl := Option.some.inj H
    go_enter Try.func9, Try.ntmps9
    go_wp2_with (first | ((with_reducible refine gate_callee (f := 16) rfl ?_); refine goesL_ (some 9) rfl rfl Try.func16 (by kernel_rfl) rfl #[] rfl (by (try simp only [List.map_toArray, List.map_cons, List.map_nil]); first | done | rfl | (simp only [List.length_drop, List.length_take]; rfl)) ?_; (with_reducible refine (symbolonlaw01_head.calls k  t378 _ A3.out).mono ?_); rintro e w6 ⟨rfl, hb⟩; refine ⟨_, rfl, ?_⟩; have n0_ := Aside0.mk (below_step (by repeat (first | (with_reducible first | exact HB.out | apply below_alloc | apply pw_below_drewN | apply below_drew1) | exact HB.out)) hb); clear HB; have HB := n0_; clear n0_; (try clear hb); (try clear hb2); (try clear hk); (try clear hi)))
    go_ret
    exact ⟨by first | rfl | (simp [errW_none, errW_some] <;> rfl) | (simp only [← hji4]; first | rfl | (simp [errW_none, errW_some] <;> rfl)) | (simp [*, errW_none, errW_some] <;> rfl), by repeat (first | (with_reducible first | exact HB.out | apply below_alloc | apply pw_below_drewN | apply below_drew1) | exact HB.out)⟩
  · rw [if_neg c5] at H
    have c5b0 : decide (3000 < (ji4)) = false := decide_eq_false c5
    clear c5
    by_cases c7 : 0 ≤ (ji4)
    · rw [if_pos c7] at H
      have c7b0 := eq_true c7
      have c7b1 : decide (0 ≤ (ji4)) = true := decide_eq_true c7
      clear c7
      by_cases c8 : (ji4) ≤ (l0.length : Int)
      · rw [if_pos c8] at H
        have c8b0 := eq_true c8
        have c8b1 : decide ((ji4) ≤ (l0.length : Int)) = true := decide_eq_true c8
        clear c8
        have c9b0 := eq_true (of_decide_eq_true (by first | (with_reducible assumption) | assumption) : 0 ≤ (ji4))
        by_cases c10 : (ji4) ≤ (l1.length : Int)
        · rw [if_pos c10] at H
          have c10b0 := eq_true c10
          have c10b1 : decide ((ji4) ≤ (l1.length : Int)) = true := decide_eq_true c10
          clear c10
          replace H := Option.bind_eq_some_iff.mp H
          obtain ⟨t381, A110, H⟩ := H
          replace H : ((ring_Sub.f k yc2 yc1).bind fun t384 => (if t378 = true then ((ring_Add.f k t381 t384).bind fun t387 => ((ring_Sum.f k t387).bind fun t390 => (if t390 = 0 then ((ring_Scale.f k 18446744073709551615 t381).bind fun t391 => ((symbolonref01_Same.f k t391 t384).bind fun t394 => (if t394 = true then ((ring_Add.f k t381 t384).bind fun t395 => ((ring_Scale.f k 0 yc1).bind fun t398 => ((symbolonref01_Same.f k t395 t398).bind fun t401 => (if t401 = true then ((ring_Sum.f k t381).bind fun t402 => ((ring_Sum.f k yc1).bind fun t403 => ((ring_Sum.f k yc2).bind fun t404 => (if t402 = (IntKind.u64.wrap (t403 - t404)) then ((ring_Dot.f k t381 t381).bind fun t405 => ((ring_Dot.f k t384 t384).bind fun t406 => (some (t405 == t406)))) else (none))))) else (none))))) else (none)))) else (none)))) else (none))) = some r := H
          have A11 := Aside0.mk A110
          clear A110
          replace H := Option.bind_eq_some_iff.mp H
          obtain ⟨t384, A120, H⟩ := H
          replace H : (if t378 = true then ((ring_Add.f k t381 t384).bind fun t387 => ((ring_Sum.f k t387).bind fun t390 => (if t390 = 0 then ((ring_Scale.f k 18446744073709551615 t381).bind fun t391 => ((symbolonref01_Same.f k t391 t384).bind fun t394 => (if t394 = true then ((ring_Add.f k t381 t384).bind fun t395 => ((ring_Scale.f k 0 yc1).bind fun t398 => ((symbolonref01_Same.f k t395 t398).bind fun t401 => (if t401 = true then ((ring_Sum.f k t381).bind fun t402 => ((ring_Sum.f k yc1).bind fun t403 => ((ring_Sum.f k yc2).bind fun t404 => (if t402 = (IntKind.u64.wrap (t403 - t404)) then ((ring_Dot.f k t381 t381).bind fun t405 => ((ring_Dot.f k t384 t384).bind fun t406 => (some (t405 == t406)))) else (none))))) else (none))))) else (none)))) else (none)))) else (none)) = some r := H
          have A12 := Aside0.mk A120
          clear A120
          by_cases c13 : t378 = true
          · subst c13
            have H1 : ((ring_Add.f k t381 t384).bind fun t387 => ((ring_Sum.f k t387).bind fun t390 => (if t390 = 0 then ((ring_Scale.f k 18446744073709551615 t381).bind fun t391 => ((symbolonref01_Same.f k t391 t384).bind fun t394 => (if t394 = true then ((ring_Add.f k t381 t384).bind fun t395 => ((ring_Scale.f k 0 yc1).bind fun t398 => ((symbolonref01_Same.f k t395 t398).bind fun t401 => (if t401 = true then ((ring_Sum.f k t381).bind fun t402 => ((ring_Sum.f k yc1).bind fun t403 => ((ring_Sum.f k yc2).bind fun t404 => (if t402 = (IntKind.u64.wrap (t403 - t404)) then ((ring_Dot.f k t381 t381).bind fun t405 => ((ring_Dot.f k t384 t384).bind fun t406 => (some (t405 == t406)))) else (none))))) else (none))))) else (none)))) else (none)))) = some r := by rw [if_pos rfl] at H; exact H
            clear H
            have H := H1
            clear H1
            replace H := Option.bind_eq_some_iff.mp H
            obtain ⟨t387, A140, H⟩ := H
            replace H : ((ring_Sum.f k t387).bind fun t390 => (if t390 = 0 then ((ring_Scale.f k 18446744073709551615 t381).bind fun t391 => ((symbolonref01_Same.f k t391 t384).bind fun t394 => (if t394 = true then ((ring_Add.f k t381 t384).bind fun t395 => ((ring_Scale.f k 0 yc1).bind fun t398 => ((symbolonref01_Same.f k t395 t398).bind fun t401 => (if t401 = true then ((ring_Sum.f k t381).bind fun t402 => ((ring_Sum.f k yc1).bind fun t403 => ((ring_Sum.f k yc2).bind fun t404 => (if t402 = (IntKind.u64.wrap (t403 - t404)) then ((ring_Dot.f k t381 t381).bind fun t405 => ((ring_Dot.f k t384 t384).bind fun t406 => (some (t405 == t406)))) else (none))))) else (none))))) else (none)))) else (none))) = some r := H
            have A14 := Aside0.mk A140
            clear A140
            replace H := Option.bind_eq_some_iff.mp H
            obtain ⟨t390, A150, H⟩ := H
            replace H : (if t390 = 0 then ((ring_Scale.f k 18446744073709551615 t381).bind fun t391 => ((symbolonref01_Same.f k t391 t384).bind fun t394 => (if t394 = true then ((ring_Add.f k t381 t384).bind fun t395 => ((ring_Scale.f k 0 yc1).bind fun t398 => ((symbolonref01_Same.f k t395 t398).bind fun t401 => (if t401 = true then ((ring_Sum.f k t381).bind fun t402 => ((ring_Sum.f k yc1).bind fun t403 => ((ring_Sum.f k yc2).bind fun t404 => (if t402 = (IntKind.u64.wrap (t403 - t404)) then ((ring_Dot.f k t381 t381).bind fun t405 => ((ring_Dot.f k t384 t384).bind fun t406 => (some (t405 == t406)))) else (none))))) else (none))))) else (none)))) else (none)) = some r := H
            have A15 := Aside0.mk A150
            clear A150
            by_cases c16 : t390 = 0
            · rw [if_pos c16] at H
              have c16b0 : (t390 == 0) = true := beq_iff_eq.mpr c16
              have c16b1 : (t390 != 0) = false := bne_eq_false_iff_eq.mpr c16
              clear c16
              replace H := Option.bind_eq_some_iff.mp H
              obtain ⟨t391, A170, H⟩ := H
              replace H : ((symbolonref01_Same.f k t391 t384).bind fun t394 => (if t394 = true then ((ring_Add.f k t381 t384).bind fun t395 => ((ring_Scale.f k 0 yc1).bind fun t398 => ((symbolonref01_Same.f k t395 t398).bind fun t401 => (if t401 = true then ((ring_Sum.f k t381).bind fun t402 => ((ring_Sum.f k yc1).bind fun t403 => ((ring_Sum.f k yc2).bind fun t404 => (if t402 = (IntKind.u64.wrap (t403 - t404)) then ((ring_Dot.f k t381 t381).bind fun t405 => ((ring_Dot.f k t384 t384).bind fun t406 => (some (t405 == t406)))) else (none))))) else (none))))) else (none))) = some r := H
              have A17 := Aside0.mk A170
              clear A170
              replace H := Option.bind_eq_some_iff.mp H
              obtain ⟨t394, A180, H⟩ := H
              replace H : (if t394 = true then ((ring_Add.f k t381 t384).bind fun t395 => ((ring_Scale.f k 0 yc1).bind fun t398 => ((symbolonref01_Same.f k t395 t398).bind fun t401 => (if t401 = true then ((ring_Sum.f k t381).bind fun t402 => ((ring_Sum.f k yc1).bind fun t403 => ((ring_Sum.f k yc2).bind fun t404 => (if t402 = (IntKind.u64.wrap (t403 - t404)) then ((ring_Dot.f k t381 t381).bind fun t405 => ((ring_Dot.f k t384 t384).bind fun t406 => (some (t405 == t406)))) else (none))))) else (none))))) else (none)) = some r := H
              have A18 := Aside0.mk A180
              clear A180
              by_cases c19 : t394 = true
              · subst c19
                have H1 : ((ring_Add.f k t381 t384).bind fun t395 => ((ring_Scale.f k 0 yc1).bind fun t398 => ((symbolonref01_Same.f k t395 t398).bind fun t401 => (if t401 = true then ((ring_Sum.f k t381).bind fun t402 => ((ring_Sum.f k yc1).bind fun t403 => ((ring_Sum.f k yc2).bind fun t404 => (if t402 = (IntKind.u64.wrap (t403 - t404)) then ((ring_Dot.f k t381 t381).bind fun t405 => ((ring_Dot.f k t384 t384).bind fun t406 => (some (t405 == t406)))) else (none))))) else (none))))) = some r := by rw [if_pos rfl] at H; exact H
                clear H
                have H := H1
                clear H1
                replace H := Option.bind_eq_some_iff.mp H
                obtain ⟨t395, A200, H⟩ := H
                replace H : ((ring_Scale.f k 0 yc1).bind fun t398 => ((symbolonref01_Same.f k t395 t398).bind fun t401 => (if t401 = true then ((ring_Sum.f k t381).bind fun t402 => ((ring_Sum.f k yc1).bind fun t403 => ((ring_Sum.f k yc2).bind fun t404 => (if t402 = (IntKind.u64.wrap (t403 - t404)) then ((ring_Dot.f k t381 t381).bind fun t405 => ((ring_Dot.f k t384 t384).bind fun t406 => (some (t405 == t406)))) else (none))))) else (none)))) = some r := H
                have A20 := Aside0.mk A200
                clear A200
                replace H := Option.bind_eq_some_iff.mp H
                obtain ⟨t398, A210, H⟩ := H
                replace H : ((symbolonref01_Same.f k t395 t398).bind fun t401 => (if t401 = true then ((ring_Sum.f k t381).bind fun t402 => ((ring_Sum.f k yc1).bind fun t403 => ((ring_Sum.f k yc2).bind fun t404 => (if t402 = (IntKind.u64.wrap (t403 - t404)) then ((ring_Dot.f k t381 t381).bind fun t405 => ((ring_Dot.f k t384 t384).bind fun t406 => (some (t405 == t406)))) else (none))))) else (none))) = some r := H
                have A21 := Aside0.mk A210
                clear A210
                replace H := Option.bind_eq_some_iff.mp H
                obtain ⟨t401, A220, H⟩ := H
                replace H : (if t401 = true then ((ring_Sum.f k t381).bind fun t402 => ((ring_Sum.f k yc1).bind fun t403 => ((ring_Sum.f k yc2).bind fun t404 => (if t402 = (IntKind.u64.wrap (t403 - t404)) then ((ring_Dot.f k t381 t381).bind fun t405 => ((ring_Dot.f k t384 t384).bind fun t406 => (some (t405 == t406)))) else (none))))) else (none)) = some r := H
                have A22 := Aside0.mk A220
                clear A220
                by_cases c23 : t401 = true
                · subst c23
                  have H1 : ((ring_Sum.f k t381).bind fun t402 => ((ring_Sum.f k yc1).bind fun t403 => ((ring_Sum.f k yc2).bind fun t404 => (if t402 = (IntKind.u64.wrap (t403 - t404)) then ((ring_Dot.f k t381 t381).bind fun t405 => ((ring_Dot.f k t384 t384).bind fun t406 => (some (t405 == t406)))) else (none))))) = some r := by rw [if_pos rfl] at H; exact H
                  clear H
                  have H := H1
                  clear H1
                  replace H := Option.bind_eq_some_iff.mp H
                  obtain ⟨t402, A240, H⟩ := H
                  replace H : ((ring_Sum.f k yc1).bind fun t403 => ((ring_Sum.f k yc2).bind fun t404 => (if t402 = (IntKind.u64.wrap (t403 - t404)) then ((ring_Dot.f k t381 t381).bind fun t405 => ((ring_Dot.f k t384 t384).bind fun t406 => (some (t405 == t406)))) else (none)))) = some r := H
                  have A24 := Aside0.mk A240
                  clear A240
                  replace H := Option.bind_eq_some_iff.mp H
                  obtain ⟨t403, A250, H⟩ := H
                  replace H : ((ring_Sum.f k yc2).bind fun t404 => (if t402 = (IntKind.u64.wrap (t403 - t404)) then ((ring_Dot.f k t381 t381).bind fun t405 => ((ring_Dot.f k t384 t384).bind fun t406 => (some (t405 == t406)))) else (none))) = some r := H
                  have A25 := Aside0.mk A250
                  clear A250
                  replace H := Option.bind_eq_some_iff.mp H
                  obtain ⟨t404, A260, H⟩ := H
                  replace H : (if t402 = (IntKind.u64.wrap (t403 - t404)) then ((ring_Dot.f k t381 t381).bind fun t405 => ((ring_Dot.f k t384 t384).bind fun t406 => (some (t405 == t406)))) else (none)) = some r := H
                  have A26 := Aside0.mk A260
                  clear A260
                  by_cases c27 : t402 = (IntKind.u64.wrap (t403 - t404))
                  · rw [if_pos c27] at H
                    have c27b0 : (t402 == (IntKind.u64.wrap (t403 - t404))) = true := beq_iff_eq.mpr c27
                    have c27b1 : (t402 != (IntKind.u64.wrap (t403 - t404))) = false := bne_eq_false_iff_eq.mpr c27
                    clear c27
                    replace H := Option.bind_eq_some_iff.mp H
                    obtain ⟨t405, A280, H⟩ := H
                    replace H : ((ring_Dot.f k t384 t384).bind fun t406 => (some (t405 == t406))) = some r := H
                    have A28 := Aside0.mk A280
                    clear A280
                    replace H := Option.bind_eq_some_iff.mp H
                    obtain ⟨t406, A290, H⟩ := H
                    replace H : (some (t405 == t406)) = some r := H
                    have A29 := Aside0.mk A290
                    clear A290
                    obtain rfl := Option.some.inj H
                    go_enter Try.func9, Try.ntmps9
                    have tk1_ : Aside0 True := ⟨trivial⟩
                    have tk2_ : Aside0 True := ⟨trivial⟩
                    have tk3_ : Aside0 True := ⟨trivial⟩
                    have tk4_ : Aside0 True := ⟨trivial⟩
                    go_wp2_with (first | ((with_reducible refine gate_callee (f := 16) rfl ?_); refine goesL_ (some 9) rfl rfl Try.func16 (by kernel_rfl) rfl #[] rfl (by (try simp only [List.map_toArray, List.map_cons, List.map_nil]); first | done | rfl | (simp only [List.length_drop, List.length_take]; rfl)) ?_; (with_reducible refine (symbolonlaw01_head.calls k  true _ A3.out).mono ?_); rintro e w30 ⟨rfl, hb⟩; refine ⟨_, rfl, ?_⟩; have n0_ := Aside0.mk (below_step (by repeat (first | (with_reducible first | exact HB.out | apply below_alloc | apply pw_below_drewN | apply below_drew1) | exact HB.out)) hb); clear HB; have HB := n0_; clear n0_; (try clear hb); (try clear hb2); (try clear hk); (try clear hi); obtain ⟨i031, hi031, _, hsz31, _⟩ := info_parts info23; obtain ⟨hcut31, hA31, hC31⟩ := print_take_of (P := Try.prog) (Value.int .u64) 0 22 23 .i64 Try.underlying22 hi031 hsz31 A0 c0 l0 (ji4) (of_decide_eq_true (by first | (with_reducible assumption) | assumption)) (of_decide_eq_true (by first | (with_reducible assumption) | assumption)) HC0.out; (try rw [← Nyc1.out] at hcut31); (try rw [← Nyc1.out] at hA31); (try rw [← Nyc1.out] at hC31); (try rw [← Nyc2.out] at hcut31); (try rw [← Nyc2.out] at hA31); (try rw [← Nyc2.out] at hC31); have HR379 := Aside0.mk (Kd.C_of_reads (h1 := fun _ => rfl) (hA31 _ (Kd.reads_of_C HR0.out))); have HC379 := Aside0.mk hC31; clear hA31 hC31 hi031 hsz31; obtain ⟨i032, hi032, _, hsz32, _⟩ := info_parts info23; obtain ⟨hcut32, hA32, hC32⟩ := print_take_of (P := Try.prog) (Value.int .u64) 0 22 23 .i64 Try.underlying22 hi032 hsz32 A1 c1 l1 (ji4) (of_decide_eq_true (by first | (with_reducible assumption) | assumption)) (of_decide_eq_true (by first | (with_reducible assumption) | assumption)) HC1.out; (try rw [← Nyc1.out] at hcut32); (try rw [← Nyc1.out] at hA32); (try rw [← Nyc1.out] at hC32); (try rw [← Nyc2.out] at hcut32); (try rw [← Nyc2.out] at hA32); (try rw [← Nyc2.out] at hC32); have HR380 := Aside0.mk (Kd.C_of_reads (h1 := fun _ => rfl) (hA32 _ (Kd.reads_of_C HR1.out))); have HC380 := Aside0.mk hC32; clear hA32 hC32 hi032 hsz32) | ((with_reducible refine gate_callee (f := 23) rfl ?_); refine goesL_ (some 26) rfl rfl Try.func23 (by kernel_rfl) rfl #[.slice A0 yc1.length c0, .slice A1 yc2.length c1] rfl (by (try simp only [List.map_toArray, List.map_cons, List.map_nil]); first | done | (simp only [hji4]; rfl) | rfl | (simp only [List.length_drop, List.length_take]; rfl)) ?_; (with_reducible refine (ring_Sub.calls k _ _ yc1 _ _ yc2 t381 _ ?side1 ?side2 ?side3 ?side4 A11.out).mono ?_); (case side1 => repeat (first | exact (Kd.C_below HR379.out HB.out) | (with_reducible refine Kd.C_alloc ?_ _) | (with_reducible refine Kd.C_drewN ?_ _) | (with_reducible refine Kd.C_drew ?_))); (case side2 => exact HC379.out); (case side3 => repeat (first | exact (Kd.C_below HR380.out HB.out) | (with_reducible refine Kd.C_alloc ?_ _) | (with_reducible refine Kd.C_drewN ?_ _) | (with_reducible refine Kd.C_drew ?_))); (case side4 => exact HC380.out); rintro e w33 ⟨v382, rfl, ho0, hb⟩; refine ⟨_, rfl, ?_⟩; have n0_ := Aside0.mk (Kd.R_lower ho0 (below_size (by repeat (first | (with_reducible first | exact HB.out | apply below_alloc | apply pw_below_drewN | apply below_drew1) | exact HB.out)))); have n1_ := Aside0.mk (below_step (by repeat (first | (with_reducible first | exact HB.out | apply below_alloc | apply pw_below_drewN | apply below_drew1) | exact HB.out)) hb); clear HB; have HO383 := n0_; have HB := n1_; clear n0_ n1_; (try clear hb); (try clear hb2); (try clear hk); (try clear hi); (try clear ho0)) | ((with_reducible refine gate_callee (f := 23) rfl ?_); refine goesL_ (some 29) rfl rfl Try.func23 (by kernel_rfl) rfl #[.slice A1 yc2.length c1, .slice A0 yc1.length c0] rfl (by (try simp only [List.map_toArray, List.map_cons, List.map_nil]); first | done | (simp only [hji4]; rfl) | rfl | (simp only [List.length_drop, List.length_take]; rfl)) ?_; (with_reducible refine (ring_Sub.calls k _ _ yc2 _ _ yc1 t384 _ ?side1 ?side2 ?side3 ?side4 A12.out).mono ?_); (case side1 => repeat (first | exact (Kd.C_below HR380.out HB.out) | (with_reducible refine Kd.C_alloc ?_ _) | (with_reducible refine Kd.C_drewN ?_ _) | (with_reducible refine Kd.C_drew ?_))); (case side2 => exact HC380.out); (case side3 => repeat (first | exact (Kd.C_below HR379.out HB.out) | (with_reducible refine Kd.C_alloc ?_ _) | (with_reducible refine Kd.C_drewN ?_ _) | (with_reducible refine Kd.C_drew ?_))); (case side4 => exact HC379.out); rintro e w34 ⟨v385, rfl, ho0, hb⟩; refine ⟨_, rfl, ?_⟩; have n0_ := Aside0.mk (Kd.R_elder' (by (with_reducible repeat (first | apply Kd.R_alloc | apply Kd.R_drewN | apply Kd.R_drew)); exact HO383.out) (Kd.R_base ho0) hb); have n1_ := Aside0.mk (Kd.R_lower (Kd.R_new' ho0 (Kd.R_lt (by (with_reducible repeat (first | apply Kd.R_alloc | apply Kd.R_drewN | apply Kd.R_drew)); exact HO383.out))) (below_size (by repeat (first | (with_reducible first | exact HB.out | apply below_alloc | apply pw_below_drewN | apply below_drew1) | exact HB.out)))); have n2_ := Aside0.mk (below_step (by repeat (first | (with_reducible first | exact HB.out | apply below_alloc | apply pw_below_drewN | apply below_drew1) | exact HB.out)) hb); clear HO383; clear HB; have HO383 := n0_; have HO386 := n1_; have HB := n2_; clear n0_ n1_ n2_; (try clear hb); (try clear hb2); (try clear hk); (try clear hi); (try clear ho0); obtain ⟨Ao35, co35, eo35⟩ := Kd.R_slice HO383.out; subst eo35; obtain ⟨Ao36, co36, eo36⟩ := Kd.R_slice HO386.out; subst eo36) | (go_at_call 21; have _t := tk1_; (with_reducible refine (ring_Add.calls k _ _ t381 _ _ t384 t387 _ ?side1 ?side2 ?side3 ?side4 A14.out).mono ?_); (case side1 => repeat (first | exact (Kd.R_reads' HO383.out).2.2 | (with_reducible refine Kd.C_alloc ?_ _) | (with_reducible refine Kd.C_drewN ?_ _) | (with_reducible refine Kd.C_drew ?_))); (case side2 => exact (Kd.R_reads' HO383.out).2.1); (case side3 => repeat (first | exact (Kd.R_reads' HO386.out).2.2 | (with_reducible refine Kd.C_alloc ?_ _) | (with_reducible refine Kd.C_drewN ?_ _) | (with_reducible refine Kd.C_drew ?_))); (case side4 => exact (Kd.R_reads' HO386.out).2.1); rintro e w37 ⟨v388, rfl, ho0, hb⟩; have n0_ := Aside0.mk (Kd.R_elder' (by (with_reducible repeat (first | apply Kd.R_alloc | apply Kd.R_drewN | apply Kd.R_drew)); exact HO383.out) (Kd.R_base ho0) hb); have n1_ := Aside0.mk (Kd.R_elder' (by (with_reducible repeat (first | apply Kd.R_alloc | apply Kd.R_drewN | apply Kd.R_drew)); exact HO386.out) (Kd.R_base ho0) hb); have n2_ := Aside0.mk (Kd.R_lower (Kd.R_new' (Kd.R_new' ho0 (Kd.R_lt (by (with_reducible repeat (first | apply Kd.R_alloc | apply Kd.R_drewN | apply Kd.R_drew)); exact HO383.out))) (Kd.R_lt (by (with_reducible repeat (first | apply Kd.R_alloc | apply Kd.R_drewN | apply Kd.R_drew)); exact HO386.out))) (below_size (by repeat (first | (with_reducible first | exact HB.out | apply below_alloc | apply pw_below_drewN | apply below_drew1) | exact HB.out)))); have n3_ := Aside0.mk (below_step (by repeat (first | (with_reducible first | exact HB.out | apply below_alloc | apply pw_below_drewN | apply below_drew1) | exact HB.out)) hb); clear HO383; clear HO386; clear HB; have HO383 := n0_; have HO386 := n1_; have HO389 := n2_; have HB := n3_; clear n0_ n1_ n2_ n3_; (try clear hb); (try clear hb2); (try clear hk); (try clear hi); (try clear ho0); obtain ⟨Ao38, co38, eo38⟩ := Kd.R_slice HO389.out; subst eo38; clear _t tk1_) | (go_at_call 29; have _t := tk2_; (with_reducible refine (ring_Sum.calls k _ _ t387 t390 _ ?side1 ?side2 A15.out).mono ?_); (case side1 => repeat (first | exact (Kd.R_reads' HO389.out).2.2 | (with_reducible refine Kd.C_alloc ?_ _) | (with_reducible refine Kd.C_drewN ?_ _) | (with_reducible refine Kd.C_drew ?_))); (case side2 => exact (Kd.R_reads' HO389.out).2.1); rintro e w' ⟨rfl, ⟨nd, rfl⟩⟩; clear _t tk2_) | (go_at_call 27; (with_reducible refine (ring_Scale.calls k 18446744073709551615 _ _ t381 t391 _ ?side1 ?side2 A17.out).mono ?_); (case side1 => repeat (first | exact (Kd.R_reads' HO383.out).2.2 | (with_reducible refine Kd.C_alloc ?_ _) | (with_reducible refine Kd.C_drewN ?_ _) | (with_reducible refine Kd.C_drew ?_))); (case side2 => exact (Kd.R_reads' HO383.out).2.1); rintro e w39 ⟨v392, rfl, ho0, hb⟩; have n0_ := Aside0.mk (Kd.R_elder' (by (with_reducible repeat (first | apply Kd.R_alloc | apply Kd.R_drewN | apply Kd.R_drew)); exact HO383.out) (Kd.R_base ho0) hb); have n1_ := Aside0.mk (Kd.R_elder' (by (with_reducible repeat (first | apply Kd.R_alloc | apply Kd.R_drewN | apply Kd.R_drew)); exact HO386.out) (Kd.R_base ho0) hb); have n2_ := Aside0.mk (Kd.R_elder' (by (with_reducible repeat (first | apply Kd.R_alloc | apply Kd.R_drewN | apply Kd.R_drew)); exact HO389.out) (Kd.R_base ho0) hb); have n3_ := Aside0.mk (Kd.R_lower (Kd.R_new' (Kd.R_new' (Kd.R_new' ho0 (Kd.R_lt (by (with_reducible repeat (first | apply Kd.R_alloc | apply Kd.R_drewN | apply Kd.R_drew)); exact HO383.out))) (Kd.R_lt (by (with_reducible repeat (first | apply Kd.R_alloc | apply Kd.R_drewN | apply Kd.R_drew)); exact HO386.out))) (Kd.R_lt (by (with_reducible repeat (first | apply Kd.R_alloc | apply Kd.R_drewN | apply Kd.R_drew)); exact HO389.out))) (below_size (by repeat (first | (with_reducible first | exact HB.out | apply below_alloc | apply pw_below_drewN | apply below_drew1) | exact HB.out)))); have n4_ := Aside0.mk (below_step (by repeat (first | (with_reducible first | exact HB.out | apply below_alloc | apply pw_below_drewN | apply below_drew1) | exact HB.out)) hb); clear HO383; clear HO386; clear HO389; clear HB; have HO383 := n0_; have HO386 := n1_; have HO389 := n2_; have HO393 := n3_; have HB := n4_; clear n0_ n1_ n2_ n3_ n4_; (try clear hb); (try clear hb2); (try clear hk); (try clear hi); (try clear ho0); obtain ⟨Ao40, co40, eo40⟩ := Kd.R_slice HO393.out; subst eo40) | (go_at_call 20; (with_reducible refine (symbolonref01_Same.calls k _ _ t391 _ _ t384 true _ ?side1 ?side2 ?side3 ?side4 A18.out).mono ?_); (case side1 => repeat (first | exact (Kd.R_reads' HO393.out).2.2 | (with_reducible refine Kd.C_alloc ?_ _) | (with_reducible refine Kd.C_drewN ?_ _) | (with_reducible refine Kd.C_drew ?_))); (case side2 => exact (Kd.R_reads' HO393.out).2.1); (case side3 => repeat (first | exact (Kd.R_reads' HO386.out).2.2 | (with_reducible refine Kd.C_alloc ?_ _) | (with_reducible refine Kd.C_drewN ?_ _) | (with_reducible refine Kd.C_drew ?_))); (case side4 => exact (Kd.R_reads' HO386.out).2.1); rintro e w' ⟨rfl, ⟨nd, rfl⟩⟩) | (go_at_call 21; have _t := tk3_; (with_reducible refine (ring_Add.calls k _ _ t381 _ _ t384 t395 _ ?side1 ?side2 ?side3 ?side4 A20.out).mono ?_); (case side1 => repeat (first | exact (Kd.R_reads' HO383.out).2.2 | (with_reducible refine Kd.C_alloc ?_ _) | (with_reducible refine Kd.C_drewN ?_ _) | (with_reducible refine Kd.C_drew ?_))); (case side2 => exact (Kd.R_reads' HO383.out).2.1); (case side3 => repeat (first | exact (Kd.R_reads' HO386.out).2.2 | (with_reducible refine Kd.C_alloc ?_ _) | (with_reducible refine Kd.C_drewN ?_ _) | (with_reducible refine Kd.C_drew ?_))); (case side4 => exact (Kd.R_reads' HO386.out).2.1); rintro e w41 ⟨v396, rfl, ho0, hb⟩; have n0_ := Aside0.mk (Kd.R_elder' (by (with_reducible repeat (first | apply Kd.R_alloc | apply Kd.R_drewN | apply Kd.R_drew)); exact HO383.out) (Kd.R_base ho0) hb); have n1_ := Aside0.mk (Kd.R_elder' (by (with_reducible repeat (first | apply Kd.R_alloc | apply Kd.R_drewN | apply Kd.R_drew)); exact HO386.out) (Kd.R_base ho0) hb); have n2_ := Aside0.mk (Kd.R_elder' (by (with_reducible repeat (first | apply Kd.R_alloc | apply Kd.R_drewN | apply Kd.R_drew)); exact HO389.out) (Kd.R_base ho0) hb); have n3_ := Aside0.mk (Kd.R_elder' (by (with_reducible repeat (first | apply Kd.R_alloc | apply Kd.R_drewN | apply Kd.R_drew)); exact HO393.out) (Kd.R_base ho0) hb); have n4_ := Aside0.mk (Kd.R_lower (Kd.R_new' (Kd.R_new' (Kd.R_new' (Kd.R_new' ho0 (Kd.R_lt (by (with_reducible repeat (first | apply Kd.R_alloc | apply Kd.R_drewN | apply Kd.R_drew)); exact HO383.out))) (Kd.R_lt (by (with_reducible repeat (first | apply Kd.R_alloc | apply Kd.R_drewN | apply Kd.R_drew)); exact HO386.out))) (Kd.R_lt (by (with_reducible repeat (first | apply Kd.R_alloc | apply Kd.R_drewN | apply Kd.R_drew)); exact HO389.out))) (Kd.R_lt (by (with_reducible repeat (first | apply Kd.R_alloc | apply Kd.R_drewN | apply Kd.R_drew)); exact HO393.out))) (below_size (by repeat (first | (with_reducible first | exact HB.out | apply below_alloc | apply pw_below_drewN | apply below_drew1) | exact HB.out)))); have n5_ := Aside0.mk (below_step (by repeat (first | (with_reducible first | exact HB.out | apply below_alloc | apply pw_below_drewN | apply below_drew1) | exact HB.out)) hb); clear HO383; clear HO386; clear HO389; clear HO393; clear HB; have HO383 := n0_; have HO386 := n1_; have HO389 := n2_; have HO393 := n3_; have HO397 := n4_; have HB := n5_; clear n0_ n1_ n2_ n3_ n4_ n5_; (try clear hb); (try clear hb2); (try clear hk); (try clear hi); (try clear ho0); clear _t tk3_) | (go_at_call 27; (with_reducible refine (ring_Scale.calls k 0 _ _ yc1 t398 _ ?side1 ?side2 A21.out).mono ?_); (case side1 => repeat (first | exact (Kd.C_below HR379.out HB.out) | (with_reducible refine Kd.C_alloc ?_ _) | (with_reducible refine Kd.C_drewN ?_ _) | (with_reducible refine Kd.C_drew ?_))); (case side2 => exact HC379.out); rintro e w42 ⟨v399, rfl, ho0, hb⟩; have n0_ := Aside0.mk (Kd.R_elder' (by (with_reducible repeat (first | apply Kd.R_alloc | apply Kd.R_drewN | apply Kd.R_drew)); exact HO383.out) (Kd.R_base ho0) hb); have n1_ := Aside0.mk (Kd.R_elder' (by (with_reducible repeat (first | apply Kd.R_alloc | apply Kd.R_drewN | apply Kd.R_drew)); exact HO386.out) (Kd.R_base ho0) hb); have n2_ := Aside0.mk (Kd.R_elder' (by (with_reducible repeat (first | apply Kd.R_alloc | apply Kd.R_drewN | apply Kd.R_drew)); exact HO389.out) (Kd.R_base ho0) hb); have n3_ := Aside0.mk (Kd.R_elder' (by (with_reducible repeat (first | apply Kd.R_alloc | apply Kd.R_drewN | apply Kd.R_drew)); exact HO393.out) (Kd.R_base ho0) hb); have n4_ := Aside0.mk (Kd.R_elder' (by (with_reducible repeat (first | apply Kd.R_alloc | apply Kd.R_drewN | apply Kd.R_drew)); exact HO397.out) (Kd.R_base ho0) hb); have n5_ := Aside0.mk (Kd.R_lower (Kd.R_new' (Kd.R_new' (Kd.R_new' (Kd.R_new' (Kd.R_new' ho0 (Kd.R_lt (by (with_reducible repeat (first | apply Kd.R_alloc | apply Kd.R_drewN | apply Kd.R_drew)); exact HO383.out))) (Kd.R_lt (by (with_reducible repeat (first | apply Kd.R_alloc | apply Kd.R_drewN | apply Kd.R_drew)); exact HO386.out))) (Kd.R_lt (by (with_reducible repeat (first | apply Kd.R_alloc | apply Kd.R_drewN | apply Kd.R_drew)); exact HO389.out))) (Kd.R_lt (by (with_reducible repeat (first | apply Kd.R_alloc | apply Kd.R_drewN | apply Kd.R_drew)); exact HO393.out))) (Kd.R_lt (by (with_reducible repeat (first | apply Kd.R_alloc | apply Kd.R_drewN | apply Kd.R_drew)); exact HO397.out))) (below_size (by repeat (first | (with_reducible first | exact HB.out | apply below_alloc | apply pw_below_drewN | apply below_drew1) | exact HB.out)))); have n6_ := Aside0.mk (below_step (by repeat (first | (with_reducible first | exact HB.out | apply below_alloc | apply pw_below_drewN | apply below_drew1) | exact HB.out)) hb); clear HO383; clear HO386; clear HO389; clear HO393; clear HO397; clear HB; have HO383 := n0_; have HO386 := n1_; have HO389 := n2_; have HO393 := n3_; have HO397 := n4_; have HO400 := n5_; have HB := n6_; clear n0_ n1_ n2_ n3_ n4_ n5_ n6_; (try clear hb); (try clear hb2); (try clear hk); (try clear hi); (try clear ho0); obtain ⟨Ao43, co43, eo43⟩ := Kd.R_slice HO397.out; subst eo43; obtain ⟨Ao44, co44, eo44⟩ := Kd.R_slice HO400.out; subst eo44) | (go_at_call 20; (with_reducible refine (symbolonref01_Same.calls k _ _ t395 _ _ t398 true _ ?side1 ?side2 ?side3 ?side4 A22.out).mono ?_); (case side1 => repeat (first | exact (Kd.R_reads' HO397.out).2.2 | (with_reducible refine Kd.C_alloc ?_ _) | (with_reducible refine Kd.C_drewN ?_ _) | (with_reducible refine Kd.C_drew ?_))); (case side2 => exact (Kd.R_reads' HO397.out).2.1); (case side3 => repeat (first | exact (Kd.R_reads' HO400.out).2.2 | (with_reducible refine Kd.C_alloc ?_ _) | (with_reducible refine Kd.C_drewN ?_ _) | (with_reducible refine Kd.C_drew ?_))); (case side4 => exact (Kd.R_reads' HO400.out).2.1); rintro e w' ⟨rfl, ⟨nd, rfl⟩⟩) | (go_at_call 29; have _t := tk4_; (with_reducible refine (ring_Sum.calls k _ _ t381 t402 _ ?side1 ?side2 A24.out).mono ?_); (case side1 => repeat (first | exact (Kd.R_reads' HO383.out).2.2 | (with_reducible refine Kd.C_alloc ?_ _) | (with_reducible refine Kd.C_drewN ?_ _) | (with_reducible refine Kd.C_drew ?_))); (case side2 => exact (Kd.R_reads' HO383.out).2.1); rintro e w' ⟨rfl, ⟨nd, rfl⟩⟩; clear _t tk4_) | (go_at_call 29; (with_reducible refine (ring_Sum.calls k _ _ yc1 t403 _ ?side1 ?side2 A25.out).mono ?_); (case side1 => repeat (first | exact (Kd.C_below HR379.out (by repeat (first | (with_reducible first | exact HB.out | apply below_alloc | apply pw_below_drewN | apply below_drew1) | exact HB.out))) | (with_reducible refine Kd.C_alloc ?_ _) | (with_reducible refine Kd.C_drewN ?_ _) | (with_reducible refine Kd.C_drew ?_))); (case side2 => exact HC379.out); rintro e w' ⟨rfl, ⟨nd, rfl⟩⟩) | (go_at_call 29; (with_reducible refine (ring_Sum.calls k _ _ yc2 t404 _ ?side1 ?side2 A26.out).mono ?_); (case side1 => repeat (first | exact (Kd.C_below HR380.out (by repeat (first | (with_reducible first | exact HB.out | apply below_alloc | apply pw_below_drewN | apply below_drew1) | exact HB.out))) | (with_reducible refine Kd.C_alloc ?_ _) | (with_reducible refine Kd.C_drewN ?_ _) | (with_reducible refine Kd.C_drew ?_))); (case side2 => exact HC380.out); rintro e w' ⟨rfl, ⟨nd, rfl⟩⟩) | (go_at_call 31; (with_reducible refine (ring_Dot.calls k _ _ t381 _ _ t381 t405 _ ?side1 ?side2 ?side3 ?side4 A28.out).mono ?_); (case side1 => repeat (first | exact (Kd.R_reads' HO383.out).2.2 | (with_reducible refine Kd.C_alloc ?_ _) | (with_reducible refine Kd.C_drewN ?_ _) | (with_reducible refine Kd.C_drew ?_))); (case side2 => exact (Kd.R_reads' HO383.out).2.1); (case side3 => repeat (first | exact (Kd.R_reads' HO383.out).2.2 | (with_reducible refine Kd.C_alloc ?_ _) | (with_reducible refine Kd.C_drewN ?_ _) | (with_reducible refine Kd.C_drew ?_))); (case side4 => exact (Kd.R_reads' HO383.out).2.1); rintro e w45 ⟨rfl, hb⟩; have n0_ := Aside0.mk (Kd.R_below (by (with_reducible repeat (first | apply Kd.R_alloc | apply Kd.R_drewN | apply Kd.R_drew)); exact HO383.out) hb); have n1_ := Aside0.mk (Kd.R_below (by (with_reducible repeat (first | apply Kd.R_alloc | apply Kd.R_drewN | apply Kd.R_drew)); exact HO386.out) hb); have n2_ := Aside0.mk (Kd.R_below (by (with_reducible repeat (first | apply Kd.R_alloc | apply Kd.R_drewN | apply Kd.R_drew)); exact HO389.out) hb); have n3_ := Aside0.mk (Kd.R_below (by (with_reducible repeat (first | apply Kd.R_alloc | apply Kd.R_drewN | apply Kd.R_drew)); exact HO393.out) hb); have n4_ := Aside0.mk (Kd.R_below (by (with_reducible repeat (first | apply Kd.R_alloc | apply Kd.R_drewN | apply Kd.R_drew)); exact HO397.out) hb); have n5_ := Aside0.mk (Kd.R_below (by (with_reducible repeat (first | apply Kd.R_alloc | apply Kd.R_drewN | apply Kd.R_drew)); exact HO400.out) hb); have n6_ := Aside0.mk (below_step (by repeat (first | (with_reducible first | exact HB.out | apply below_alloc | apply pw_below_drewN | apply below_drew1) | exact HB.out)) hb); clear HO383; clear HO386; clear HO389; clear HO393; clear HO397; clear HO400; clear HB; have HO383 := n0_; have HO386 := n1_; have HO389 := n2_; have HO393 := n3_; have HO397 := n4_; have HO400 := n5_; have HB := n6_; clear n0_ n1_ n2_ n3_ n4_ n5_ n6_; (try clear hb); (try clear hb2); (try clear hk); (try clear hi)) | (go_at_call 31; (with_reducible refine (ring_Dot.calls k _ _ t384 _ _ t384 t406 _ ?side1 ?side2 ?side3 ?side4 A29.out).mono ?_); (case side1 => repeat (first | exact (Kd.R_reads' HO386.out).2.2 | (with_reducible refine Kd.C_alloc ?_ _) | (with_reducible refine Kd.C_drewN ?_ _) | (with_reducible refine Kd.C_drew ?_))); (case side2 => exact (Kd.R_reads' HO386.out).2.1); (case side3 => repeat (first | exact (Kd.R_reads' HO386.out).2.2 | (with_reducible refine Kd.C_alloc ?_ _) | (with_reducible refine Kd.C_drewN ?_ _) | (with_reducible refine Kd.C_drew ?_))); (case side4 => exact (Kd.R_reads' HO386.out).2.1); rintro e w46 ⟨rfl, hb⟩; have n0_ := Aside0.mk (Kd.R_below (by (with_reducible repeat (first | apply Kd.R_alloc | apply Kd.R_drewN | apply Kd.R_drew)); exact HO383.out) hb); have n1_ := Aside0.mk (Kd.R_below (by (with_reducible repeat (first | apply Kd.R_alloc | apply Kd.R_drewN | apply Kd.R_drew)); exact HO386.out) hb); have n2_ := Aside0.mk (Kd.R_below (by (with_reducible repeat (first | apply Kd.R_alloc | apply Kd.R_drewN | apply Kd.R_drew)); exact HO389.out) hb); have n3_ := Aside0.mk (Kd.R_below (by (with_reducible repeat (first | apply Kd.R_alloc | apply Kd.R_drewN | apply Kd.R_drew)); exact HO393.out) hb); have n4_ := Aside0.mk (Kd.R_below (by (with_reducible repeat (first | apply Kd.R_alloc | apply Kd.R_drewN | apply Kd.R_drew)); exact HO397.out) hb); have n5_ := Aside0.mk (Kd.R_below (by (with_reducible repeat (first | apply Kd.R_alloc | apply Kd.R_drewN | apply Kd.R_drew)); exact HO400.out) hb); have n6_ := Aside0.mk (below_step (by repeat (first | (with_reducible first | exact HB.out | apply below_alloc | apply pw_below_drewN | apply below_drew1) | exact HB.out)) hb); clear HO383; clear HO386; clear HO389; clear HO393; clear HO397; clear HO400; clear HB; have HO383 := n0_; have HO386 := n1_; have HO389 := n2_; have HO393 := n3_; have HO397 := n4_; have HO400 := n5_; have HB := n6_; clear n0_ n1_ n2_ n3_ n4_ n5_ n6_; (try clear hb); (try clear hb2); (try clear hk); (try clear hi)))
                    go_ret
                    exact ⟨by first | rfl | (simp [errW_none, errW_some] <;> rfl) | (simp only [← hji4]; first | rfl | (simp [errW_none, errW_some] <;> rfl)) | (simp [*, errW_none, errW_some] <;> rfl), by repeat (first | (with_reducible first | exact HB.out | apply below_alloc | apply pw_below_drewN | apply below_drew1) | exact HB.out)⟩
                  · rw [if_neg c27] at H
                    exact absurd H (by simp)
                · replace c23 := Bool.eq_false_iff.mpr c23
                  subst c23
                  have H1 : (none) = some r := by rw [if_neg (show ¬ (false = true) by decide)] at H; exact H
                  clear H
                  have H := H1
                  clear H1
                  exact absurd H (by simp)
              · replace c19 := Bool.eq_false_iff.mpr c19
                subst c19
                have H1 : (none) = some r := by rw [if_neg (show ¬ (false = true) by decide)] at H; exact H
                clear H
                have H := H1
                clear H1
                exact absurd H (by simp)
            · rw [if_neg c16] at H
              exact absurd H (by simp)
          · replace c13 := Bool.eq_false_iff.mpr c13
            subst c13
            have H1 : (none) = some r := by rw [if_neg (show ¬ (false = true) by decide)] at H; exact H
            clear H
            have H := H1
            clear H1
            exact absurd H (by simp)
        · rw [if_neg c10] at H
          exact absurd H (by simp)
      · rw [if_neg c8] at H
        exact absurd H (by simp)
    · rw [if_neg c7] at H
      exact absurd H (by simp)

/-- THE ONE PURE STATEMENT of symbolonlaw01_RingSides: yours. -/
def symbolonlaw01_RingSides.Pure : Prop := ∀ (l0 : List Int) (l1 : List Int), l0.length ≤ maxLen → l0.length * 8 ≤ 140737488351232 → (∀ x ∈ l0, (Lit.int .u64 x).wf = true) → l1.length ≤ maxLen → l1.length * 8 ≤ 140737488351232 → (∀ x ∈ l1, (Lit.int .u64 x).wf = true) → ∃ k, symbolonlaw01_RingSides.f k l0 l1 = some true
theorem symbolonlaw01_RingSides.walk (P : symbolonlaw01_RingSides.Pure) (a0 : Option Addr) (len0 cap0 : Nat) (z0 : List Int) (a1 : Option Addr) (len1 cap1 : Nat) (z1 : List Int) (w : World) (w0 : (a0 = none ∧ len0 = 0 ∧ cap0 = 0 ∧ z0 = []) ∨ ∃ x, a0 = some x ∧ len0 ≤ cap0 ∧ cap0 ≤ maxLen ∧ z0.length = cap0 ∧ (∀ i, i < z0.length → w.cell? (x.add i) = some (.int .u64 (z0.getD i 0))) ∧ ∀ n ∈ z0, (Lit.int .u64 n).wf = true) (y0 : len0 * 8 ≤ 140737488351232) (w1 : (a1 = none ∧ len1 = 0 ∧ cap1 = 0 ∧ z1 = []) ∨ ∃ x, a1 = some x ∧ len1 ≤ cap1 ∧ cap1 ≤ maxLen ∧ z1.length = cap1 ∧ (∀ i, i < z1.length → w.cell? (x.add i) = some (.int .u64 (z1.getD i 0))) ∧ ∀ n ∈ z1, (Lit.int .u64 n).wf = true) (y1 : len1 * 8 ≤ 140737488351232) :
    Calls Try.prog 9 #[.slice a0 len0 cap0, .slice a1 len1 cap1] w fun e w' => e = .returned (.bool true) ∧ Below w.heap.size w w' := by
  obtain ⟨l0, rfl, hr0, hm0, hw0, hc0⟩ := ReadsInt.ofRowC w0
  obtain ⟨l1, rfl, hr1, hm1, hw1, hc1⟩ := ReadsInt.ofRowC w1
  obtain ⟨k, h⟩ := P l0 l1 hm0 y0 hw0 hm1 y1 hw1
  refine (symbolonlaw01_RingSides.calls k _ _ l0 _ _ l1 true w (Kd.C_of_reads (d := (0 : Int)) (h1 := fun _ => rfl) hr0) hc0 (Kd.C_of_reads (d := (0 : Int)) (h1 := fun _ => rfl) hr1) hc1 h).mono ?_
  rintro e w' ⟨rfl, hd⟩
  exact ⟨rfl, hd⟩

end Go.Proofs.Ytifehkjcccjccaa.PRg
