/- The Go functions that this seat's statements reach: each with the plain function that it computes, for every input at which that function answers. Written by a program of the session (wip/tools/hprint.py) over the kit's printer; contracts that the printer does not take are proved by hand among them. -/
import Derived.Test.YtlfjebbcmngihaaPTrx0
import Derived.Test.YtlfjebbcmngihaaPTrx1
import Derived.Test.YtlfjebbcmngihaaPTrx3
import Derived.Test.YtlfjebbcmngihaaPTrx4
import Derived.Test.YtlfjebbcmngihaaPTrx5
namespace Go.Proofs.Ytlfjebbcmngihaa.PTr
open Go.RowKit Go.Proofs.YtlfjebbcmngihaaW.PrintWords Go.Proofs.YtlfjebbcmngihaaW.PrintLast Go.Proofs.YtlfjebbcmngihaaW.PrintMore
attribute [local go_sem] max2_int min2_int max_two min_two max_three min_three max_four min_four   -- for this text's walks alone
set_option linter.unusedVariables false
set_option linter.unusedSimpArgs false

attribute [local go_sem high] eqA25
/-! ### symbolonlaw11_TripleRow: function 5 -/
def symbolonlaw11_TripleRow.l0 : Nat → Int → Int → Int → Bool → Int → List (S25) → List (S25) → List (S25) → Int → Option (Bool)
  | 0, _, _, _, _, _, _, _, _, _ => none
  | k + 1, x0, x1, x2, x11, x12, x13, x15, x16, x17 => if x17 < x12 then (if 0 ≤ x17 then (if x17 < (x13.length : Int) then ((triple_Half.f k x0 x1 (IntKind.u64.wrap (x2 + (IntKind.u64.wrap (x17))))).bind fun bt180 => (if (!(((rd_T25 x13 x17).f0) == bt180.1) || (!(((rd_T25 x13 x17).f1) == bt180.2.1) || (!(((rd_T25 x13 x17).f2) == bt180.2.2)))) = true then (some false) else (symbolonlaw11_TripleRow.l0 k x0 x1 x2 x11 x12 x13 x15 x16 (wrap64 (x17 + 1))))) else (none)) else (none)) else (if x11 = true then ((some (([] : List (S25)) : List (S25))).bind fun y183 => (if y183.length + x15.length < 5864062014805 then ((some (y183 ++ x15 : List (S25))).bind fun y186 => (if y186.length + x16.length < 5864062014805 then ((symbolonref11_Same.f k (y186 ++ x16) x13).bind fun t192 => (some t192)) else (none))) else (none))) else (some false))
def symbolonlaw11_TripleRow.f (k : Nat) (a0 : Int) (a1 : Int) (a2 : Int) (a3 : Int) (a4 : Int) : Option (Bool) := (symbolonlaw11_head.f k).bind fun t169 => ((triple_Row.f k a0 a1 a2 (Int.tmod (wrap64 (a3)) 5000)).bind fun t170 => (if (Int.tmod (wrap64 (a3)) 5000) > 4096 then (if t169 = true then (some ((t170.length : Int) == 0)) else (some false)) else (if (t170.length : Int) = (Int.tmod (wrap64 (a3)) 5000) then (if (wrap64 ((Int.tmod (wrap64 (a3)) 5000) + 1)) = 0 then (none) else ((triple_Row.f k a0 a1 a2 (Int.tmod (wrap64 (a4)) (wrap64 ((Int.tmod (wrap64 (a3)) 5000) + 1)))).bind fun t173 => ((triple_Row.f k a0 a1 (IntKind.u64.wrap (a2 + (IntKind.u64.wrap (Int.tmod (wrap64 (a4)) (wrap64 ((Int.tmod (wrap64 (a3)) 5000) + 1)))))) (wrap64 ((Int.tmod (wrap64 (a3)) 5000) - (Int.tmod (wrap64 (a4)) (wrap64 ((Int.tmod (wrap64 (a3)) 5000) + 1)))))).bind fun t176 => (symbolonlaw11_TripleRow.l0 k a0 a1 a2 t169 (Int.tmod (wrap64 (a3)) 5000) t170 t173 t176 0)))) else (some false))))
theorem symbolonlaw11_TripleRow.mono_l : ∀ k, (∀ y0 y1 y2 y3 y4 y5 y6 y7 y8, LeO (symbolonlaw11_TripleRow.l0 k y0 y1 y2 y3 y4 y5 y6 y7 y8) (symbolonlaw11_TripleRow.l0 (k + 1) y0 y1 y2 y3 y4 y5 y6 y7 y8))
  | 0 => fun _ _ _ _ _ _ _ _ _ r h => by simp [symbolonlaw11_TripleRow.l0] at h
  | k + 1 => by
    have ih0 := symbolonlaw11_TripleRow.mono_l k
    · intro y0 y1 y2 y3 y4 y5 y6 y7 y8
      unfold symbolonlaw11_TripleRow.l0
      repeat' first
      | (with_reducible exact ih0 _ _ _ _ _ _ _ _ _)
      | (with_reducible exact symbolonlaw11_head.mono _)
      | (with_reducible exact symbolonref11_Same.mono _ _ _)
      | (with_reducible exact triple_Half.mono _ _ _ _)
      | (with_reducible exact triple_Row.mono _ _ _ _ _)
      | (with_reducible exact LeO.refl _)
      | (with_reducible exact LeO.none _)
      | (with_reducible refine LeO.ite ?_ ?_)
      | (with_reducible refine LeO.bind ?_ (fun _ => ?_))
      | exact ih0 _ _ _ _ _ _ _ _ _
      | exact symbolonlaw11_head.mono _
      | exact symbolonref11_Same.mono _ _ _
      | exact triple_Half.mono _ _ _ _
      | exact triple_Row.mono _ _ _ _ _
      | exact LeO.none _
      | refine LeO.ite ?_ ?_
      | refine LeO.bind ?_ (fun _ => ?_)
theorem symbolonlaw11_TripleRow.mono : ∀ a0 a1 a2 a3 a4 k, LeO (symbolonlaw11_TripleRow.f k a0 a1 a2 a3 a4) (symbolonlaw11_TripleRow.f (k + 1) a0 a1 a2 a3 a4) := by
  intro a0 a1 a2 a3 a4 k
  have ih0 := symbolonlaw11_TripleRow.mono_l k
  unfold symbolonlaw11_TripleRow.f
  repeat' first
      | (with_reducible exact ih0 _ _ _ _ _ _ _ _ _)
      | (with_reducible exact symbolonlaw11_head.mono _)
      | (with_reducible exact symbolonref11_Same.mono _ _ _)
      | (with_reducible exact triple_Half.mono _ _ _ _)
      | (with_reducible exact triple_Row.mono _ _ _ _ _)
      | (with_reducible exact LeO.refl _)
      | (with_reducible exact LeO.none _)
      | (with_reducible refine LeO.ite ?_ ?_)
      | (with_reducible refine LeO.bind ?_ (fun _ => ?_))
      | exact ih0 _ _ _ _ _ _ _ _ _
      | exact symbolonlaw11_head.mono _
      | exact symbolonref11_Same.mono _ _ _
      | exact triple_Half.mono _ _ _ _
      | exact triple_Row.mono _ _ _ _ _
      | exact LeO.none _
      | refine LeO.ite ?_ ?_
      | refine LeO.bind ?_ (fun _ => ?_)
def symbolonlaw11_TripleRow.T14 : Bool × List (List Nat × List Nat) := (true, [([], []), ([], []), ([0, 1], [0, 1]), ([2], [2]), ([], []), ([], []), ([], []), ([], []), ([7], [7]), ([6, 8], [6, 8]), ([4, 5, 9], [4, 5, 9]), ([3, 10], [3, 10])])
def symbolonlaw11_TripleRow.B14 : List Nat := [0, 0, 3, 7, 0, 0, 0, 0, 128, 448, 1008, 2047]
theorem symbolonlaw11_TripleRow.tab14 : rtab .any (opsOf Try.f5 14) = symbolonlaw11_TripleRow.T14 := by kernel_rfl
theorem symbolonlaw11_TripleRow.bits14 : waitsOk symbolonlaw11_TripleRow.T14.2 symbolonlaw11_TripleRow.B14 = true := by kernel_rfl
set_option maxHeartbeats 8000000 in
set_option maxRecDepth 100000 in
theorem symbolonlaw11_TripleRow.calls (k : Nat) (a0 : Int) (a1 : Int) (a2 : Int) (a3 : Int) (a4 : Int) (r : Bool) (w : World) (h : symbolonlaw11_TripleRow.f k a0 a1 a2 a3 a4 = some r) :
    Calls Try.prog 5 #[.int .u64 a0, .int .i64 a1, .int .u64 a2, .int .u16 a3, .int .u16 a4] w fun e w' => e = .returned (.bool r) ∧ Below w.heap.size w w' := by
  have hu25 := Try.underlying25
  have HB := Aside0.mk (Below.refl w.heap.size w)
  have H : ((symbolonlaw11_head.f k).bind fun t169 => ((triple_Row.f k a0 a1 a2 (Int.tmod (wrap64 (a3)) 5000)).bind fun t170 => (if (Int.tmod (wrap64 (a3)) 5000) > 4096 then (if t169 = true then (some ((t170.length : Int) == 0)) else (some false)) else (if (t170.length : Int) = (Int.tmod (wrap64 (a3)) 5000) then (if (wrap64 ((Int.tmod (wrap64 (a3)) 5000) + 1)) = 0 then (none) else ((triple_Row.f k a0 a1 a2 (Int.tmod (wrap64 (a4)) (wrap64 ((Int.tmod (wrap64 (a3)) 5000) + 1)))).bind fun t173 => ((triple_Row.f k a0 a1 (IntKind.u64.wrap (a2 + (IntKind.u64.wrap (Int.tmod (wrap64 (a4)) (wrap64 ((Int.tmod (wrap64 (a3)) 5000) + 1)))))) (wrap64 ((Int.tmod (wrap64 (a3)) 5000) - (Int.tmod (wrap64 (a4)) (wrap64 ((Int.tmod (wrap64 (a3)) 5000) + 1)))))).bind fun t176 => (symbolonlaw11_TripleRow.l0 k a0 a1 a2 t169 (Int.tmod (wrap64 (a3)) 5000) t170 t173 t176 0)))) else (some false))))) = some r := h
  clear h
  replace H := Option.bind_eq_some_iff.mp H
  obtain ⟨t169, A60, H⟩ := H
  replace H : ((triple_Row.f k a0 a1 a2 (Int.tmod (wrap64 (a3)) 5000)).bind fun t170 => (if (Int.tmod (wrap64 (a3)) 5000) > 4096 then (if t169 = true then (some ((t170.length : Int) == 0)) else (some false)) else (if (t170.length : Int) = (Int.tmod (wrap64 (a3)) 5000) then (if (wrap64 ((Int.tmod (wrap64 (a3)) 5000) + 1)) = 0 then (none) else ((triple_Row.f k a0 a1 a2 (Int.tmod (wrap64 (a4)) (wrap64 ((Int.tmod (wrap64 (a3)) 5000) + 1)))).bind fun t173 => ((triple_Row.f k a0 a1 (IntKind.u64.wrap (a2 + (IntKind.u64.wrap (Int.tmod (wrap64 (a4)) (wrap64 ((Int.tmod (wrap64 (a3)) 5000) + 1)))))) (wrap64 ((Int.tmod (wrap64 (a3)) 5000) - (Int.tmod (wrap64 (a4)) (wrap64 ((Int.tmod (wrap64 (a3)) 5000) + 1)))))).bind fun t176 => (symbolonlaw11_TripleRow.l0 k a0 a1 a2 t169 (Int.tmod (wrap64 (a3)) 5000) t170 t173 t176 0)))) else (some false)))) = some r := H
  have A6 := Aside0.mk A60
  clear A60
  replace H := Option.bind_eq_some_iff.mp H
  obtain ⟨t170, A70, H⟩ := H
  replace H : (if (Int.tmod (wrap64 (a3)) 5000) > 4096 then (if t169 = true then (some ((t170.length : Int) == 0)) else (some false)) else (if (t170.length : Int) = (Int.tmod (wrap64 (a3)) 5000) then (if (wrap64 ((Int.tmod (wrap64 (a3)) 5000) + 1)) = 0 then (none) else ((triple_Row.f k a0 a1 a2 (Int.tmod (wrap64 (a4)) (wrap64 ((Int.tmod (wrap64 (a3)) 5000) + 1)))).bind fun t173 => ((triple_Row.f k a0 a1 (IntKind.u64.wrap (a2 + (IntKind.u64.wrap (Int.tmod (wrap64 (a4)) (wrap64 ((Int.tmod (wrap64 (a3)) 5000) + 1)))))) (wrap64 ((Int.tmod (wrap64 (a3)) 5000) - (Int.tmod (wrap64 (a4)) (wrap64 ((Int.tmod (wrap64 (a3)) 5000) + 1)))))).bind fun t176 => (symbolonlaw11_TripleRow.l0 k a0 a1 a2 t169 (Int.tmod (wrap64 (a3)) 5000) t170 t173 t176 0)))) else (some false))) = some r := H
  have A7 := Aside0.mk A70
  clear A70
  by_cases c8 : (Int.tmod (wrap64 (a3)) 5000) > 4096
  · rw [if_pos c8] at H
    have c8b0 : decide (4096 < (Int.tmod (wrap64 (a3)) 5000)) = true := decide_eq_true c8
    clear c8
    by_cases c9 : t169 = true
    · subst c9
      have H1 : (some ((t170.length : Int) == 0)) = some r := by rw [if_pos rfl] at H; exact H
      clear H
      have H := H1
      clear H1
      obtain rfl := Option.some.inj H
      go_enter Try.func5, Try.ntmps5
      go_wp2_with (first | ((with_reducible refine gate_callee (f := 13) rfl ?_); refine goesL_ (some 18) rfl rfl Try.func13 (by kernel_rfl) rfl #[] rfl (by (try simp only [List.map_toArray, List.map_cons, List.map_nil]); first | done | rfl | (simp only [List.length_drop, List.length_take]; rfl)) ?_; (with_reducible refine (symbolonlaw11_head.calls k  true _ A6.out).mono ?_); rintro e w10 ⟨rfl, hb⟩; refine ⟨_, rfl, ?_⟩; have n0_ := Aside0.mk (below_step (by repeat (first | (with_reducible first | exact HB.out | apply below_alloc | apply pw_below_drewN | apply below_drew1) | exact HB.out)) hb); clear HB; have HB := n0_; clear n0_; (try clear hb); (try clear hb2); (try clear hk); (try clear hi)) | ((with_reducible refine gate_callee (f := 17) rfl ?_); refine goesL_ (some 26) rfl rfl Try.func17 (by kernel_rfl) rfl #[.int .u64 a0, .int .i64 a1, .int .u64 a2, .int .i64 (Int.tmod (wrap64 (a3)) 5000)] rfl (by (try simp only [List.map_toArray, List.map_cons, List.map_nil]); first | done | rfl | (simp only [List.length_drop, List.length_take]; rfl)) ?_; (with_reducible refine (triple_Row.calls k a0 a1 a2 (Int.tmod (wrap64 (a3)) 5000) t170 _ A7.out).mono ?_); rintro e w11 ⟨v171, rfl, ho0, hb⟩; refine ⟨_, rfl, ?_⟩; have n0_ := Aside0.mk (Kd.R_lower ho0 (below_size (by repeat (first | (with_reducible first | exact HB.out | apply below_alloc | apply pw_below_drewN | apply below_drew1) | exact HB.out)))); have n1_ := Aside0.mk (below_step (by repeat (first | (with_reducible first | exact HB.out | apply below_alloc | apply pw_below_drewN | apply below_drew1) | exact HB.out)) hb); clear HB; have HO172 := n0_; have HB := n1_; clear n0_ n1_; (try clear hb); (try clear hb2); (try clear hk); (try clear hi); (try clear ho0); obtain ⟨Ao12, co12, eo12⟩ := Kd.R_slice HO172.out; subst eo12))
      go_ret
      exact ⟨by first | rfl | (simp [errW_none, errW_some] <;> rfl) | (simp [*, errW_none, errW_some] <;> rfl), by repeat (first | (with_reducible first | exact HB.out | apply below_alloc | apply pw_below_drewN | apply below_drew1) | exact HB.out)⟩
    · replace c9 := Bool.eq_false_iff.mpr c9
      subst c9
      have H1 : (some false) = some r := by rw [if_neg (show ¬ (false = true) by decide)] at H; exact H
      clear H
      have H := H1
      clear H1
      obtain rfl := Option.some.inj H
      go_enter Try.func5, Try.ntmps5
      go_wp2_with (first | ((with_reducible refine gate_callee (f := 13) rfl ?_); refine goesL_ (some 18) rfl rfl Try.func13 (by kernel_rfl) rfl #[] rfl (by (try simp only [List.map_toArray, List.map_cons, List.map_nil]); first | done | rfl | (simp only [List.length_drop, List.length_take]; rfl)) ?_; (with_reducible refine (symbolonlaw11_head.calls k  false _ A6.out).mono ?_); rintro e w13 ⟨rfl, hb⟩; refine ⟨_, rfl, ?_⟩; have n0_ := Aside0.mk (below_step (by repeat (first | (with_reducible first | exact HB.out | apply below_alloc | apply pw_below_drewN | apply below_drew1) | exact HB.out)) hb); clear HB; have HB := n0_; clear n0_; (try clear hb); (try clear hb2); (try clear hk); (try clear hi)) | ((with_reducible refine gate_callee (f := 17) rfl ?_); refine goesL_ (some 26) rfl rfl Try.func17 (by kernel_rfl) rfl #[.int .u64 a0, .int .i64 a1, .int .u64 a2, .int .i64 (Int.tmod (wrap64 (a3)) 5000)] rfl (by (try simp only [List.map_toArray, List.map_cons, List.map_nil]); first | done | rfl | (simp only [List.length_drop, List.length_take]; rfl)) ?_; (with_reducible refine (triple_Row.calls k a0 a1 a2 (Int.tmod (wrap64 (a3)) 5000) t170 _ A7.out).mono ?_); rintro e w14 ⟨v171, rfl, ho0, hb⟩; refine ⟨_, rfl, ?_⟩; have n0_ := Aside0.mk (Kd.R_lower ho0 (below_size (by repeat (first | (with_reducible first | exact HB.out | apply below_alloc | apply pw_below_drewN | apply below_drew1) | exact HB.out)))); have n1_ := Aside0.mk (below_step (by repeat (first | (with_reducible first | exact HB.out | apply below_alloc | apply pw_below_drewN | apply below_drew1) | exact HB.out)) hb); clear HB; have HO172 := n0_; have HB := n1_; clear n0_ n1_; (try clear hb); (try clear hb2); (try clear hk); (try clear hi); (try clear ho0)))
      go_ret
      exact ⟨by first | rfl | (simp [errW_none, errW_some] <;> rfl) | (simp [*, errW_none, errW_some] <;> rfl), by repeat (first | (with_reducible first | exact HB.out | apply below_alloc | apply pw_below_drewN | apply below_drew1) | exact HB.out)⟩
  · rw [if_neg c8] at H
    have c8b0 : decide (4096 < (Int.tmod (wrap64 (a3)) 5000)) = false := decide_eq_false c8
    clear c8
    by_cases c15 : (t170.length : Int) = (Int.tmod (wrap64 (a3)) 5000)
    · rw [if_pos c15] at H
      have c15b0 : ((t170.length : Int) == (Int.tmod (wrap64 (a3)) 5000)) = true := beq_iff_eq.mpr c15
      have c15b1 : ((t170.length : Int) != (Int.tmod (wrap64 (a3)) 5000)) = false := bne_eq_false_iff_eq.mpr c15
      clear c15
      by_cases c16 : (wrap64 ((Int.tmod (wrap64 (a3)) 5000) + 1)) = 0
      · rw [if_pos c16] at H
        exact absurd H (by simp)
      · rw [if_neg c16] at H
        have c16b0 : ((wrap64 ((Int.tmod (wrap64 (a3)) 5000) + 1)) == 0) = false := beq_eq_false_iff_ne.mpr c16
        have c16b1 : ((wrap64 ((Int.tmod (wrap64 (a3)) 5000) + 1)) != 0) = true := bne_iff_ne.mpr c16
        replace H := Option.bind_eq_some_iff.mp H
        obtain ⟨t173, A170, H⟩ := H
        replace H : ((triple_Row.f k a0 a1 (IntKind.u64.wrap (a2 + (IntKind.u64.wrap (Int.tmod (wrap64 (a4)) (wrap64 ((Int.tmod (wrap64 (a3)) 5000) + 1)))))) (wrap64 ((Int.tmod (wrap64 (a3)) 5000) - (Int.tmod (wrap64 (a4)) (wrap64 ((Int.tmod (wrap64 (a3)) 5000) + 1)))))).bind fun t176 => (symbolonlaw11_TripleRow.l0 k a0 a1 a2 t169 (Int.tmod (wrap64 (a3)) 5000) t170 t173 t176 0)) = some r := H
        have A17 := Aside0.mk A170
        clear A170
        replace H := Option.bind_eq_some_iff.mp H
        obtain ⟨t176, A180, H⟩ := H
        replace H : (symbolonlaw11_TripleRow.l0 k a0 a1 a2 t169 (Int.tmod (wrap64 (a3)) 5000) t170 t173 t176 0) = some r := H
        have A18 := Aside0.mk A180
        clear A180
        have H' := Aside0.mk H
        clear H
        go_enter Try.func5, Try.ntmps5
        go_wp2_with (first | ((with_reducible refine gate_callee (f := 13) rfl ?_); refine goesL_ (some 18) rfl rfl Try.func13 (by kernel_rfl) rfl #[] rfl (by (try simp only [List.map_toArray, List.map_cons, List.map_nil]); first | done | rfl | (simp only [List.length_drop, List.length_take]; rfl)) ?_; (with_reducible refine (symbolonlaw11_head.calls k  t169 _ A6.out).mono ?_); rintro e w19 ⟨rfl, hb⟩; refine ⟨_, rfl, ?_⟩; have n0_ := Aside0.mk (below_step (by repeat (first | (with_reducible first | exact HB.out | apply below_alloc | apply pw_below_drewN | apply below_drew1) | exact HB.out)) hb); clear HB; have HB := n0_; clear n0_; (try clear hb); (try clear hb2); (try clear hk); (try clear hi)) | ((with_reducible refine gate_callee (f := 17) rfl ?_); refine goesL_ (some 26) rfl rfl Try.func17 (by kernel_rfl) rfl #[.int .u64 a0, .int .i64 a1, .int .u64 a2, .int .i64 (Int.tmod (wrap64 (a3)) 5000)] rfl (by (try simp only [List.map_toArray, List.map_cons, List.map_nil]); first | done | rfl | (simp only [List.length_drop, List.length_take]; rfl)) ?_; (with_reducible refine (triple_Row.calls k a0 a1 a2 (Int.tmod (wrap64 (a3)) 5000) t170 _ A7.out).mono ?_); rintro e w20 ⟨v171, rfl, ho0, hb⟩; refine ⟨_, rfl, ?_⟩; have n0_ := Aside0.mk (Kd.R_lower ho0 (below_size (by repeat (first | (with_reducible first | exact HB.out | apply below_alloc | apply pw_below_drewN | apply below_drew1) | exact HB.out)))); have n1_ := Aside0.mk (below_step (by repeat (first | (with_reducible first | exact HB.out | apply below_alloc | apply pw_below_drewN | apply below_drew1) | exact HB.out)) hb); clear HB; have HO172 := n0_; have HB := n1_; clear n0_ n1_; (try clear hb); (try clear hb2); (try clear hk); (try clear hi); (try clear ho0); obtain ⟨Ao21, co21, eo21⟩ := Kd.R_slice HO172.out; subst eo21) | ((with_reducible refine gate_callee (f := 17) rfl ?_); refine goesL_ (some 48) rfl rfl Try.func17 (by kernel_rfl) rfl #[.int .u64 a0, .int .i64 a1, .int .u64 a2, .int .i64 (Int.tmod (wrap64 (a4)) (wrap64 ((Int.tmod (wrap64 (a3)) 5000) + 1)))] rfl (by (try simp only [List.map_toArray, List.map_cons, List.map_nil]); first | done | rfl | (simp only [List.length_drop, List.length_take]; rfl)) ?_; (with_reducible refine (triple_Row.calls k a0 a1 a2 (Int.tmod (wrap64 (a4)) (wrap64 ((Int.tmod (wrap64 (a3)) 5000) + 1))) t173 _ A17.out).mono ?_); rintro e w22 ⟨v174, rfl, ho0, hb⟩; refine ⟨_, rfl, ?_⟩; have n0_ := Aside0.mk (Kd.R_elder' (by (with_reducible repeat (first | apply Kd.R_alloc | apply Kd.R_drewN | apply Kd.R_drew)); exact HO172.out) (Kd.R_base ho0) hb); have n1_ := Aside0.mk (Kd.R_lower (Kd.R_new' ho0 (Kd.R_lt (by (with_reducible repeat (first | apply Kd.R_alloc | apply Kd.R_drewN | apply Kd.R_drew)); exact HO172.out))) (below_size (by repeat (first | (with_reducible first | exact HB.out | apply below_alloc | apply pw_below_drewN | apply below_drew1) | exact HB.out)))); have n2_ := Aside0.mk (below_step (by repeat (first | (with_reducible first | exact HB.out | apply below_alloc | apply pw_below_drewN | apply below_drew1) | exact HB.out)) hb); clear HO172; clear HB; have HO172 := n0_; have HO175 := n1_; have HB := n2_; clear n0_ n1_ n2_; (try clear hb); (try clear hb2); (try clear hk); (try clear hi); (try clear ho0)) | ((with_reducible refine gate_callee (f := 17) rfl ?_); refine goesL_ (some 58) rfl rfl Try.func17 (by kernel_rfl) rfl #[.int .u64 a0, .int .i64 a1, .int .u64 (IntKind.u64.wrap (a2 + (IntKind.u64.wrap (Int.tmod (wrap64 (a4)) (wrap64 ((Int.tmod (wrap64 (a3)) 5000) + 1)))))), .int .i64 (wrap64 ((Int.tmod (wrap64 (a3)) 5000) - (Int.tmod (wrap64 (a4)) (wrap64 ((Int.tmod (wrap64 (a3)) 5000) + 1)))))] rfl (by (try simp only [List.map_toArray, List.map_cons, List.map_nil]); first | done | rfl | (simp only [List.length_drop, List.length_take]; rfl)) ?_; (with_reducible refine (triple_Row.calls k a0 a1 (IntKind.u64.wrap (a2 + (IntKind.u64.wrap (Int.tmod (wrap64 (a4)) (wrap64 ((Int.tmod (wrap64 (a3)) 5000) + 1)))))) (wrap64 ((Int.tmod (wrap64 (a3)) 5000) - (Int.tmod (wrap64 (a4)) (wrap64 ((Int.tmod (wrap64 (a3)) 5000) + 1))))) t176 _ A18.out).mono ?_); rintro e w23 ⟨v177, rfl, ho0, hb⟩; refine ⟨_, rfl, ?_⟩; have n0_ := Aside0.mk (Kd.R_elder' (by (with_reducible repeat (first | apply Kd.R_alloc | apply Kd.R_drewN | apply Kd.R_drew)); exact HO172.out) (Kd.R_base ho0) hb); have n1_ := Aside0.mk (Kd.R_elder' (by (with_reducible repeat (first | apply Kd.R_alloc | apply Kd.R_drewN | apply Kd.R_drew)); exact HO175.out) (Kd.R_base ho0) hb); have n2_ := Aside0.mk (Kd.R_lower (Kd.R_new' (Kd.R_new' ho0 (Kd.R_lt (by (with_reducible repeat (first | apply Kd.R_alloc | apply Kd.R_drewN | apply Kd.R_drew)); exact HO172.out))) (Kd.R_lt (by (with_reducible repeat (first | apply Kd.R_alloc | apply Kd.R_drewN | apply Kd.R_drew)); exact HO175.out))) (below_size (by repeat (first | (with_reducible first | exact HB.out | apply below_alloc | apply pw_below_drewN | apply below_drew1) | exact HB.out)))); have n3_ := Aside0.mk (below_step (by repeat (first | (with_reducible first | exact HB.out | apply below_alloc | apply pw_below_drewN | apply below_drew1) | exact HB.out)) hb); clear HO172; clear HO175; clear HB; have HO172 := n0_; have HO175 := n1_; have HO178 := n2_; have HB := n3_; clear n0_ n1_ n2_ n3_; (try clear hb); (try clear hb2); (try clear hk); (try clear hi); (try clear ho0)))
        go_loopg [17] k (fun kq v17 w' => ∃ (x17_1 : Int), v17 = .int .i64 x17_1 ∧ Aside0 (symbolonlaw11_TripleRow.l0 kq a0 a1 a2 t169 (Int.tmod (wrap64 (a3)) 5000) t170 t173 t176 x17_1 = some r) ∧ Aside0 (kq ≤ k) ∧ Aside0 (Kd.R k25 25 w' w.heap.size (fun k_ => some k_ ≠ (v174 : Value).ownBlock ∧ some k_ ≠ (v177 : Value).ownBlock) (.slice Ao21 t170.length co21) t170) ∧ Aside0 (Kd.R k25 25 w' w.heap.size (fun k_ => some k_ ≠ ((.slice Ao21 t170.length co21) : Value).ownBlock ∧ some k_ ≠ (v177 : Value).ownBlock) v174 t173) ∧ Aside0 (Kd.R k25 25 w' w.heap.size (fun k_ => some k_ ≠ ((.slice Ao21 t170.length co21) : Value).ownBlock ∧ some k_ ≠ (v174 : Value).ownBlock) v177 t176) ∧ Aside0 (Below w.heap.size w w'))
        case atStart => exact ⟨(0), (by first | rfl | (simp; done) | (simp [*]; done)), H', ⟨Nat.le_refl _⟩, ⟨by (with_reducible repeat (first | apply Kd.R_alloc | apply Kd.R_drewN | apply Kd.R_drew)); exact Kd.R_mono HO172.out (fun _ hk => ⟨hk.1.2, hk.2⟩)⟩, ⟨by (with_reducible repeat (first | apply Kd.R_alloc | apply Kd.R_drewN | apply Kd.R_drew)); exact Kd.R_mono HO175.out (fun _ hk => ⟨hk.1.2, hk.2⟩)⟩, ⟨by (with_reducible repeat (first | apply Kd.R_alloc | apply Kd.R_drewN | apply Kd.R_drew)); exact Kd.R_mono HO178.out (fun _ hk => ⟨hk.1.2, hk.2⟩)⟩, ⟨by repeat (first | (with_reducible first | exact HB.out | apply below_alloc | apply pw_below_drewN | apply below_drew1) | exact HB.out)⟩⟩
        case round =>
          clear H'
          try clear c1
          try clear p2
          try clear c5
          try clear p6
          try clear c8
          try clear c8b0
          try clear c9
          try clear c13
          try clear c15
          try clear c15b0
          try clear c15b1
          try clear c16
          try clear c16b0
          try clear c16b1
          try clear c17
          obtain ⟨x17_1, rfl, HA, HK1, HO_13, HO_15, HO_16, HB⟩ := hrel
          cases gk with
          | zero => exact absurd HA.out (by simp [symbolonlaw11_TripleRow.l0])
          | succ k1 =>
            have H := HA.out
            clear HA
            simp only [symbolonlaw11_TripleRow.l0] at H
            by_cases c24 : x17_1 < (Int.tmod (wrap64 (a3)) 5000)
            · rw [if_pos c24] at H
              have c24b0 : decide (x17_1 < (Int.tmod (wrap64 (a3)) 5000)) = true := decide_eq_true c24
              clear c24
              by_cases c25 : 0 ≤ x17_1
              · rw [if_pos c25] at H
                have c25b0 : decide (0 ≤ x17_1) = true := decide_eq_true c25
                clear c25
                by_cases c26 : x17_1 < (t170.length : Int)
                · rw [if_pos c26] at H
                  have c26b0 : decide (x17_1 < (t170.length : Int)) = true := decide_eq_true c26
                  clear c26
                  replace H := Option.bind_eq_some_iff.mp H
                  obtain ⟨⟨t180, t181, t182⟩, A270, H⟩ := H
                  replace H : (if (!(((rd_T25 t170 x17_1).f0) == t180) || (!(((rd_T25 t170 x17_1).f1) == t181) || (!(((rd_T25 t170 x17_1).f2) == t182)))) = true then (some false) else (symbolonlaw11_TripleRow.l0 k1 a0 a1 a2 t169 (Int.tmod (wrap64 (a3)) 5000) t170 t173 t176 (wrap64 (x17_1 + 1)))) = some r := H
                  have A27 := Aside0.mk A270
                  clear A270
                  by_cases c28 : (!(((rd_T25 t170 x17_1).f0) == t180) || (!(((rd_T25 t170 x17_1).f1) == t181) || (!(((rd_T25 t170 x17_1).f2) == t182)))) = true
                  · rw [if_pos c28] at H
                    have c28b0 : (!(((rd_T25 t170 x17_1).f0) == t180) || (!(((rd_T25 t170 x17_1).f1) == t181) || (!(((rd_T25 t170 x17_1).f2) == t182)))) = true := c28
                    clear c28
                    obtain rfl := Option.some.inj H
                    try go_wp2
                    have n0_ := Aside0.mk (Kd.R_drew HO_13.out)
                    have n1_ := Aside0.mk (Kd.R_drew HO_15.out)
                    have n2_ := Aside0.mk (Kd.R_drew HO_16.out)
                    have n3_ := Aside0.mk (below_drew1 HB.out)
                    clear HO_13
                    clear HO_15
                    clear HO_16
                    clear HB
                    have HO_13 := n0_
                    have HO_15 := n1_
                    have HO_16 := n2_
                    have HB := n3_
                    clear n0_ n1_ n2_ n3_
                    have p179 : 0 ≤ (x17_1 : Int) := of_decide_eq_true (by first | (with_reducible assumption) | assumption)
                    have q179 : x17_1 < (t170.length : Int) := of_decide_eq_true (by first | (with_reducible assumption) | assumption)
                    obtain ⟨ad179, e179, hx179_0, hx179_1, hx179_2⟩ := at_T25 (Kd.R_reads' HO_13.out).2.2 x17_1 p179 q179
                    cases e179
                    replace p179 := eq_true p179
                    replace q179 := eq_true q179
                    refine start_ (n := 12) (S := fun w' => w'.cell? (ad179.add ((x17_1).toNat * 3)) = some (.int .u64 ((rd_T25 t170 x17_1).f0)) ∧ w'.cell? ⟨(ad179.add ((x17_1).toNat * 3)).block, (ad179.add ((x17_1).toNat * 3)).off + 1, none⟩ = some (.int .u64 ((rd_T25 t170 x17_1).f1)) ∧ w'.cell? ⟨(ad179.add ((x17_1).toNat * 3)).block, (ad179.add ((x17_1).toNat * 3)).off + 2, none⟩ = some (.int .u64 ((rd_T25 t170 x17_1).f2))) (ds := []) #[false, false, false, false, false, false, false, false, false, false, false, false] (by kernel_rfl) rfl rfl ⟨hx179_0, hx179_1, hx179_2⟩ (fun hHeld => ?_); refine with_tabW symbolonlaw11_TripleRow.tab14 symbolonlaw11_TripleRow.bits14 (fun HT_ HW_ => ?_)
                    generalize wr.drew = w29 at HO_13 HO_15 HO_16 HB hx179_0 hx179_1 hx179_2 hHeld ⊢
                    refine pure_ (i := 0) (N := some 64) (v := ?_) (a' := ?_) #[true, false, false, false, false, false, false, false, false, false, false, false] rfl rfl (any_of HT_.out (by kernel_rfl)) (fun _ _ _ h => h) (Or.inl ⟨by rfl, ?_⟩) ?_ ?_
                    rotate_left
                    · intro w'
                      go_simp
                      with_reducible rfl
                    rotate_left
                    · simp only [Act.put, List.setIfInBounds_toArray, List.set_cons_zero, List.set_cons_succ, i64_w, i32_w]
                      rfl
                    refine pure_ (i := 1) (N := some 65) (v := ?_) (a' := ?_) #[true, true, false, false, false, false, false, false, false, false, false, false] rfl rfl (any_of HT_.out (by kernel_rfl)) (fun _ _ _ h => h) (Or.inl ⟨by rfl, ?_⟩) ?_ ?_
                    rotate_left
                    · intro w'
                      go_simp
                      with_reducible rfl
                    rotate_left
                    · simp only [Act.put, List.setIfInBounds_toArray, List.set_cons_zero, List.set_cons_succ, i64_w, i32_w]
                      rfl
                    refine pure_ (i := 2) (N := some 66) (v := ?_) (a' := ?_) #[true, true, true, false, false, false, false, false, false, false, false, false] rfl rfl (any_of HT_.out (by kernel_rfl)) (fun _ _ _ h => h) (Or.inl ⟨by rfl, ?_⟩) ?_ ?_
                    rotate_left
                    · intro w'
                      go_simp
                      with_reducible rfl
                    rotate_left
                    · simp only [Act.put, List.setIfInBounds_toArray, List.set_cons_zero, List.set_cons_succ, i64_w, i32_w]
                      rfl
                    refine pure_ (i := 4) (N := some 68) (v := ?_) (a' := ?_) #[true, true, true, false, true, false, false, false, false, false, false, false] rfl rfl (any_of HT_.out (by kernel_rfl)) (fun _ _ _ h => h) (Or.inl ⟨by rfl, ?_⟩) ?_ ?_
                    rotate_left
                    · intro w'
                      go_simp
                      with_reducible rfl
                    rotate_left
                    · simp only [Act.put, List.setIfInBounds_toArray, List.set_cons_zero, List.set_cons_succ, i64_w, i32_w]
                      rfl
                    refine pure_ (i := 5) (N := some 69) (v := ?_) (a' := ?_) #[true, true, true, false, true, true, false, false, false, false, false, false] rfl rfl (any_of HT_.out (by kernel_rfl)) (fun _ _ _ h => h) (Or.inl ⟨by rfl, ?_⟩) ?_ ?_
                    rotate_left
                    · intro w'
                      go_simp
                      with_reducible rfl
                    rotate_left
                    · simp only [Act.put, List.setIfInBounds_toArray, List.set_cons_zero, List.set_cons_succ, i64_w, i32_w]
                      rfl
                    refine pure_ (i := 6) (N := some 70) (v := ?_) (a' := ?_) #[true, true, true, false, true, true, true, false, false, false, false, false] rfl rfl (any_of HT_.out (by kernel_rfl)) (fun _ _ _ h => h) (Or.inl ⟨by rfl, ?_⟩) ?_ ?_
                    rotate_left
                    · intro w'
                      go_simp
                      with_reducible rfl
                    rotate_left
                    · simp only [Act.put, List.setIfInBounds_toArray, List.set_cons_zero, List.set_cons_succ, i64_w, i32_w]
                      rfl
                    refine pure_ (i := 7) (N := some 71) (v := ?_) (a' := ?_) #[true, true, true, false, true, true, true, true, false, false, false, false] rfl rfl (any_of HT_.out (by kernel_rfl)) (fun _ _ _ h => h) (Or.inl ⟨by rfl, ?_⟩) ?_ ?_
                    rotate_left
                    · intro w'
                      go_simp
                      with_reducible rfl
                    rotate_left
                    · simp only [Act.put, List.setIfInBounds_toArray, List.set_cons_zero, List.set_cons_succ, i64_w, i32_w]
                      rfl
                    refine pure_ (i := 8) (N := some 72) (v := ?_) (a' := ?_) #[true, true, true, false, true, true, true, true, true, false, false, false] rfl rfl (any_of HT_.out (by kernel_rfl)) (fun _ _ _ h => h) (Or.inl ⟨by rfl, ?_⟩) ?_ ?_
                    rotate_left
                    · intro w'
                      go_simp
                      with_reducible rfl
                    rotate_left
                    · simp only [Act.put, List.setIfInBounds_toArray, List.set_cons_zero, List.set_cons_succ, i64_w, i32_w]
                      rfl
                    refine pure_ (i := 9) (N := some 73) (v := ?_) (a' := ?_) #[true, true, true, false, true, true, true, true, true, true, false, false] rfl rfl (any_of HT_.out (by kernel_rfl)) (fun _ _ _ h => h) (Or.inl ⟨by rfl, ?_⟩) ?_ ?_
                    rotate_left
                    · intro w'
                      go_simp
                      with_reducible rfl
                    rotate_left
                    · simp only [Act.put, List.setIfInBounds_toArray, List.set_cons_zero, List.set_cons_succ, i64_w, i32_w]
                      rfl
                    refine take_ (i := 3) (N := some 67) (v := ?_) (a' := ?_) #[true, true, true, true, true, true, true, true, true, true, false, false] rfl rfl (take_ofW HT_.out HW_.out (by kernel_rfl)) (fun _ _ _ h => h) (Or.inl ⟨by rfl, ?_⟩) hHeld ?_ ?_
                    rotate_left
                    · rintro w' ⟨s0, s1, s2⟩
                      go_simp
                      with_reducible rfl
                    rotate_left
                    · simp only [Act.put, List.setIfInBounds_toArray, List.set_cons_zero, List.set_cons_succ, i64_w, i32_w]
                      rfl
                    refine one_ (i := 10) (N := some 74) #[true, true, true, true, true, true, true, true, true, true, true, false] rfl rfl (one_of HT_.out (by kernel_rfl)) (by decide) (fun K hK => ?_)
                    refine goes_ Try.func14 (by kernel_rfl) rfl #[.int .u64 a0, .int .i64 a1, .int .u64 (IntKind.u64.wrap (a2 + (IntKind.u64.wrap (x17_1))))] (by rfl) rfl rfl (by (try simp only [List.map_toArray, List.map_cons, List.map_nil]); first | done | rfl | (simp only [List.length_drop, List.length_take]; rfl)) ?_
                    with_reducible refine (triple_Half.calls k1 a0 a1 (IntKind.u64.wrap (a2 + (IntKind.u64.wrap (x17_1)))) t180 t181 t182 _ A27.out).mono ?_
                    rintro e w30 ⟨rfl, hb⟩
                    have HS0_ := (hb.cell (World.block_lt_of_cell? _ _ (hHeld.1))).trans (hHeld.1)
                    have HS1_ := (hb.cell (World.block_lt_of_cell? _ _ (hHeld.2.1))).trans (hHeld.2.1)
                    have HS2_ := (hb.cell (World.block_lt_of_cell? _ _ (hHeld.2.2))).trans (hHeld.2.2)
                    refine ⟨_, rfl, ?_⟩
                    have n0_ := Aside0.mk (Kd.R_below (by (with_reducible repeat (first | apply Kd.R_alloc | apply Kd.R_drewN | apply Kd.R_drew)); exact HO_13.out) hb)
                    have n1_ := Aside0.mk (Kd.R_below (by (with_reducible repeat (first | apply Kd.R_alloc | apply Kd.R_drewN | apply Kd.R_drew)); exact HO_15.out) hb)
                    have n2_ := Aside0.mk (Kd.R_below (by (with_reducible repeat (first | apply Kd.R_alloc | apply Kd.R_drewN | apply Kd.R_drew)); exact HO_16.out) hb)
                    have n3_ := Aside0.mk (below_step (by repeat (first | (with_reducible first | exact HB.out | apply below_alloc | apply pw_below_drewN | apply below_drew1) | exact HB.out)) hb)
                    clear HO_13
                    clear HO_15
                    clear HO_16
                    clear HB
                    have HO_13 := n0_
                    have HO_15 := n1_
                    have HO_16 := n2_
                    have HB := n3_
                    clear n0_ n1_ n2_ n3_
                    (try clear hb)
                    (try clear hb2)
                    (try clear hk)
                    (try clear hi)
                    refine hK.out _ _ ⟨HS0_, HS1_, HS2_⟩ (fun hHeld => ?_)
                    clear hK K
                    refine norm_ (a' := ?_) ?_ ?_
                    rotate_left
                    · show Act.put _ (some 74) _ = _
                      simp only [Act.put, List.setIfInBounds_toArray, List.set_cons_zero, List.set_cons_succ, i64_w, i32_w]
                      rfl
                    refine pure_ (i := 11) (N := some 75) (v := ?_) (a' := ?_) #[true, true, true, true, true, true, true, true, true, true, true, true] rfl rfl (any_of HT_.out (by kernel_rfl)) (fun _ _ _ h => h) (Or.inl ⟨by rfl, ?_⟩) ?_ ?_
                    rotate_left
                    · intro w'
                      go_simp
                      with_reducible rfl
                    rotate_left
                    · simp only [Act.put, List.setIfInBounds_toArray, List.set_cons_zero, List.set_cons_succ, i64_w, i32_w]
                      rfl
                    refine done_ (done_of HT_.out (by kernel_rfl)) ?_
                    try go_wp2
                    go_ret
                    exact ⟨by first | rfl | (simp [errW_none, errW_some] <;> rfl) | (simp [*, errW_none, errW_some] <;> rfl), by repeat (first | (with_reducible first | exact HB.out | apply below_alloc | apply pw_below_drewN | apply below_drew1) | exact HB.out)⟩
                  · rw [if_neg c28] at H
                    have c28b0 : (!(((rd_T25 t170 x17_1).f0) == t180) || (!(((rd_T25 t170 x17_1).f1) == t181) || (!(((rd_T25 t170 x17_1).f2) == t182)))) = false := by simpa using c28
                    clear c28
                    have H' := Aside0.mk H
                    clear H
                    try go_wp2
                    have n0_ := Aside0.mk (Kd.R_drew HO_13.out)
                    have n1_ := Aside0.mk (Kd.R_drew HO_15.out)
                    have n2_ := Aside0.mk (Kd.R_drew HO_16.out)
                    have n3_ := Aside0.mk (below_drew1 HB.out)
                    clear HO_13
                    clear HO_15
                    clear HO_16
                    clear HB
                    have HO_13 := n0_
                    have HO_15 := n1_
                    have HO_16 := n2_
                    have HB := n3_
                    clear n0_ n1_ n2_ n3_
                    have p179 : 0 ≤ (x17_1 : Int) := of_decide_eq_true (by first | (with_reducible assumption) | assumption)
                    have q179 : x17_1 < (t170.length : Int) := of_decide_eq_true (by first | (with_reducible assumption) | assumption)
                    obtain ⟨ad179, e179, hx179_0, hx179_1, hx179_2⟩ := at_T25 (Kd.R_reads' HO_13.out).2.2 x17_1 p179 q179
                    cases e179
                    replace p179 := eq_true p179
                    replace q179 := eq_true q179
                    refine start_ (n := 12) (S := fun w' => w'.cell? (ad179.add ((x17_1).toNat * 3)) = some (.int .u64 ((rd_T25 t170 x17_1).f0)) ∧ w'.cell? ⟨(ad179.add ((x17_1).toNat * 3)).block, (ad179.add ((x17_1).toNat * 3)).off + 1, none⟩ = some (.int .u64 ((rd_T25 t170 x17_1).f1)) ∧ w'.cell? ⟨(ad179.add ((x17_1).toNat * 3)).block, (ad179.add ((x17_1).toNat * 3)).off + 2, none⟩ = some (.int .u64 ((rd_T25 t170 x17_1).f2))) (ds := []) #[false, false, false, false, false, false, false, false, false, false, false, false] (by kernel_rfl) rfl rfl ⟨hx179_0, hx179_1, hx179_2⟩ (fun hHeld => ?_); refine with_tabW symbolonlaw11_TripleRow.tab14 symbolonlaw11_TripleRow.bits14 (fun HT_ HW_ => ?_)
                    generalize wr.drew = w31 at HO_13 HO_15 HO_16 HB hx179_0 hx179_1 hx179_2 hHeld ⊢
                    refine pure_ (i := 0) (N := some 64) (v := ?_) (a' := ?_) #[true, false, false, false, false, false, false, false, false, false, false, false] rfl rfl (any_of HT_.out (by kernel_rfl)) (fun _ _ _ h => h) (Or.inl ⟨by rfl, ?_⟩) ?_ ?_
                    rotate_left
                    · intro w'
                      go_simp
                      with_reducible rfl
                    rotate_left
                    · simp only [Act.put, List.setIfInBounds_toArray, List.set_cons_zero, List.set_cons_succ, i64_w, i32_w]
                      rfl
                    refine pure_ (i := 1) (N := some 65) (v := ?_) (a' := ?_) #[true, true, false, false, false, false, false, false, false, false, false, false] rfl rfl (any_of HT_.out (by kernel_rfl)) (fun _ _ _ h => h) (Or.inl ⟨by rfl, ?_⟩) ?_ ?_
                    rotate_left
                    · intro w'
                      go_simp
                      with_reducible rfl
                    rotate_left
                    · simp only [Act.put, List.setIfInBounds_toArray, List.set_cons_zero, List.set_cons_succ, i64_w, i32_w]
                      rfl
                    refine pure_ (i := 2) (N := some 66) (v := ?_) (a' := ?_) #[true, true, true, false, false, false, false, false, false, false, false, false] rfl rfl (any_of HT_.out (by kernel_rfl)) (fun _ _ _ h => h) (Or.inl ⟨by rfl, ?_⟩) ?_ ?_
                    rotate_left
                    · intro w'
                      go_simp
                      with_reducible rfl
                    rotate_left
                    · simp only [Act.put, List.setIfInBounds_toArray, List.set_cons_zero, List.set_cons_succ, i64_w, i32_w]
                      rfl
                    refine pure_ (i := 4) (N := some 68) (v := ?_) (a' := ?_) #[true, true, true, false, true, false, false, false, false, false, false, false] rfl rfl (any_of HT_.out (by kernel_rfl)) (fun _ _ _ h => h) (Or.inl ⟨by rfl, ?_⟩) ?_ ?_
                    rotate_left
                    · intro w'
                      go_simp
                      with_reducible rfl
                    rotate_left
                    · simp only [Act.put, List.setIfInBounds_toArray, List.set_cons_zero, List.set_cons_succ, i64_w, i32_w]
                      rfl
                    refine pure_ (i := 5) (N := some 69) (v := ?_) (a' := ?_) #[true, true, true, false, true, true, false, false, false, false, false, false] rfl rfl (any_of HT_.out (by kernel_rfl)) (fun _ _ _ h => h) (Or.inl ⟨by rfl, ?_⟩) ?_ ?_
                    rotate_left
                    · intro w'
                      go_simp
                      with_reducible rfl
                    rotate_left
                    · simp only [Act.put, List.setIfInBounds_toArray, List.set_cons_zero, List.set_cons_succ, i64_w, i32_w]
                      rfl
                    refine pure_ (i := 6) (N := some 70) (v := ?_) (a' := ?_) #[true, true, true, false, true, true, true, false, false, false, false, false] rfl rfl (any_of HT_.out (by kernel_rfl)) (fun _ _ _ h => h) (Or.inl ⟨by rfl, ?_⟩) ?_ ?_
                    rotate_left
                    · intro w'
                      go_simp
                      with_reducible rfl
                    rotate_left
                    · simp only [Act.put, List.setIfInBounds_toArray, List.set_cons_zero, List.set_cons_succ, i64_w, i32_w]
                      rfl
                    refine pure_ (i := 7) (N := some 71) (v := ?_) (a' := ?_) #[true, true, true, false, true, true, true, true, false, false, false, false] rfl rfl (any_of HT_.out (by kernel_rfl)) (fun _ _ _ h => h) (Or.inl ⟨by rfl, ?_⟩) ?_ ?_
                    rotate_left
                    · intro w'
                      go_simp
                      with_reducible rfl
                    rotate_left
                    · simp only [Act.put, List.setIfInBounds_toArray, List.set_cons_zero, List.set_cons_succ, i64_w, i32_w]
                      rfl
                    refine pure_ (i := 8) (N := some 72) (v := ?_) (a' := ?_) #[true, true, true, false, true, true, true, true, true, false, false, false] rfl rfl (any_of HT_.out (by kernel_rfl)) (fun _ _ _ h => h) (Or.inl ⟨by rfl, ?_⟩) ?_ ?_
                    rotate_left
                    · intro w'
                      go_simp
                      with_reducible rfl
                    rotate_left
                    · simp only [Act.put, List.setIfInBounds_toArray, List.set_cons_zero, List.set_cons_succ, i64_w, i32_w]
                      rfl
                    refine pure_ (i := 9) (N := some 73) (v := ?_) (a' := ?_) #[true, true, true, false, true, true, true, true, true, true, false, false] rfl rfl (any_of HT_.out (by kernel_rfl)) (fun _ _ _ h => h) (Or.inl ⟨by rfl, ?_⟩) ?_ ?_
                    rotate_left
                    · intro w'
                      go_simp
                      with_reducible rfl
                    rotate_left
                    · simp only [Act.put, List.setIfInBounds_toArray, List.set_cons_zero, List.set_cons_succ, i64_w, i32_w]
                      rfl
                    refine take_ (i := 3) (N := some 67) (v := ?_) (a' := ?_) #[true, true, true, true, true, true, true, true, true, true, false, false] rfl rfl (take_ofW HT_.out HW_.out (by kernel_rfl)) (fun _ _ _ h => h) (Or.inl ⟨by rfl, ?_⟩) hHeld ?_ ?_
                    rotate_left
                    · rintro w' ⟨s0, s1, s2⟩
                      go_simp
                      with_reducible rfl
                    rotate_left
                    · simp only [Act.put, List.setIfInBounds_toArray, List.set_cons_zero, List.set_cons_succ, i64_w, i32_w]
                      rfl
                    refine one_ (i := 10) (N := some 74) #[true, true, true, true, true, true, true, true, true, true, true, false] rfl rfl (one_of HT_.out (by kernel_rfl)) (by decide) (fun K hK => ?_)
                    refine goes_ Try.func14 (by kernel_rfl) rfl #[.int .u64 a0, .int .i64 a1, .int .u64 (IntKind.u64.wrap (a2 + (IntKind.u64.wrap (x17_1))))] (by rfl) rfl rfl (by (try simp only [List.map_toArray, List.map_cons, List.map_nil]); first | done | rfl | (simp only [List.length_drop, List.length_take]; rfl)) ?_
                    with_reducible refine (triple_Half.calls k1 a0 a1 (IntKind.u64.wrap (a2 + (IntKind.u64.wrap (x17_1)))) t180 t181 t182 _ A27.out).mono ?_
                    rintro e w32 ⟨rfl, hb⟩
                    have HS0_ := (hb.cell (World.block_lt_of_cell? _ _ (hHeld.1))).trans (hHeld.1)
                    have HS1_ := (hb.cell (World.block_lt_of_cell? _ _ (hHeld.2.1))).trans (hHeld.2.1)
                    have HS2_ := (hb.cell (World.block_lt_of_cell? _ _ (hHeld.2.2))).trans (hHeld.2.2)
                    refine ⟨_, rfl, ?_⟩
                    have n0_ := Aside0.mk (Kd.R_below (by (with_reducible repeat (first | apply Kd.R_alloc | apply Kd.R_drewN | apply Kd.R_drew)); exact HO_13.out) hb)
                    have n1_ := Aside0.mk (Kd.R_below (by (with_reducible repeat (first | apply Kd.R_alloc | apply Kd.R_drewN | apply Kd.R_drew)); exact HO_15.out) hb)
                    have n2_ := Aside0.mk (Kd.R_below (by (with_reducible repeat (first | apply Kd.R_alloc | apply Kd.R_drewN | apply Kd.R_drew)); exact HO_16.out) hb)
                    have n3_ := Aside0.mk (below_step (by repeat (first | (with_reducible first | exact HB.out | apply below_alloc | apply pw_below_drewN | apply below_drew1) | exact HB.out)) hb)
                    clear HO_13
                    clear HO_15
                    clear HO_16
                    clear HB
                    have HO_13 := n0_
                    have HO_15 := n1_
                    have HO_16 := n2_
                    have HB := n3_
                    clear n0_ n1_ n2_ n3_
                    (try clear hb)
                    (try clear hb2)
                    (try clear hk)
                    (try clear hi)
                    refine hK.out _ _ ⟨HS0_, HS1_, HS2_⟩ (fun hHeld => ?_)
                    clear hK K
                    refine norm_ (a' := ?_) ?_ ?_
                    rotate_left
                    · show Act.put _ (some 74) _ = _
                      simp only [Act.put, List.setIfInBounds_toArray, List.set_cons_zero, List.set_cons_succ, i64_w, i32_w]
                      rfl
                    refine pure_ (i := 11) (N := some 75) (v := ?_) (a' := ?_) #[true, true, true, true, true, true, true, true, true, true, true, true] rfl rfl (any_of HT_.out (by kernel_rfl)) (fun _ _ _ h => h) (Or.inl ⟨by rfl, ?_⟩) ?_ ?_
                    rotate_left
                    · intro w'
                      go_simp
                      with_reducible rfl
                    rotate_left
                    · simp only [Act.put, List.setIfInBounds_toArray, List.set_cons_zero, List.set_cons_succ, i64_w, i32_w]
                      rfl
                    refine done_ (done_of HT_.out (by kernel_rfl)) ?_
                    try go_wp2
                    go_roundg k1
                    case measure => have := HK1.out; omega
                    case rel => exact ⟨(wrap64 (x17_1 + 1)), (by first | rfl | (simp; done) | (simp [*]; done)), H', ⟨by have := HK1.out; omega⟩, ⟨by (with_reducible repeat (first | apply Kd.R_alloc | apply Kd.R_drewN | apply Kd.R_drew)); exact HO_13.out⟩, ⟨by (with_reducible repeat (first | apply Kd.R_alloc | apply Kd.R_drewN | apply Kd.R_drew)); exact HO_15.out⟩, ⟨by (with_reducible repeat (first | apply Kd.R_alloc | apply Kd.R_drewN | apply Kd.R_drew)); exact HO_16.out⟩, ⟨by repeat (first | (with_reducible first | exact HB.out | apply below_alloc | apply pw_below_drewN | apply below_drew1) | exact HB.out)⟩⟩
                · rw [if_neg c26] at H
                  exact absurd H (by simp)
              · rw [if_neg c25] at H
                exact absurd H (by simp)
            · rw [if_neg c24] at H
              have c24b0 : decide (x17_1 < (Int.tmod (wrap64 (a3)) 5000)) = false := decide_eq_false c24
              clear c24
              by_cases c33 : t169 = true
              · subst c33
                have H1 : ((some (([] : List (S25)) : List (S25))).bind fun y183 => (if y183.length + t173.length < 5864062014805 then ((some (y183 ++ t173 : List (S25))).bind fun y186 => (if y186.length + t176.length < 5864062014805 then ((symbolonref11_Same.f k1 (y186 ++ t176) t170).bind fun t192 => (some t192)) else (none))) else (none))) = some r := by rw [if_pos rfl] at H; exact H
                clear H
                have H := H1
                clear H1
                obtain ⟨y183, hy183⟩ : ∃ y_ : List (S25), y_ = (([] : List (S25))) := ⟨_, rfl⟩
                replace H : (if y183.length + t173.length < 5864062014805 then ((some (y183 ++ t173 : List (S25))).bind fun y186 => (if y186.length + t176.length < 5864062014805 then ((symbolonref11_Same.f k1 (y186 ++ t176) t170).bind fun t192 => (some t192)) else (none))) else (none)) = some r := by first | (rw [hy183]; with_reducible exact H) | (have H2_ := (Option.bind_some _ _).symm.trans H; rw [hy183]; with_reducible exact H2_) | (have H2_ := (Option.bind_some _ _).symm.trans H; with_reducible exact H2_) | with_reducible exact H | (rw [hy183]; exact H) | exact H
                have Ny183 := Aside0.mk hy183
                clear hy183
                by_cases c34 : y183.length + t173.length < 5864062014805
                · rw [if_pos c34] at H
                  have LMc34 := Aside0.mk c34
                  clear c34
                  obtain ⟨y186, hy186⟩ : ∃ y_ : List (S25), y_ = (y183 ++ t173) := ⟨_, rfl⟩
                  replace H : (if y186.length + t176.length < 5864062014805 then ((symbolonref11_Same.f k1 (y186 ++ t176) t170).bind fun t192 => (some t192)) else (none)) = some r := by first | (rw [hy186]; with_reducible exact H) | (have H2_ := (Option.bind_some _ _).symm.trans H; rw [hy186]; with_reducible exact H2_) | (have H2_ := (Option.bind_some _ _).symm.trans H; with_reducible exact H2_) | with_reducible exact H | (rw [hy186]; exact H) | exact H
                  have Ny186 := Aside0.mk hy186
                  clear hy186
                  by_cases c35 : y186.length + t176.length < 5864062014805
                  · rw [if_pos c35] at H
                    have LMc35 := Aside0.mk c35
                    clear c35
                    obtain ⟨y189, hy189⟩ : ∃ y_ : List (S25), y_ = (y186 ++ t176) := ⟨_, rfl⟩
                    replace H : ((symbolonref11_Same.f k1 y189 t170).bind fun t192 => (some t192)) = some r := by first | (rw [hy189]; with_reducible exact H) | (have H2_ := (Option.bind_some _ _).symm.trans H; rw [hy189]; with_reducible exact H2_) | (have H2_ := (Option.bind_some _ _).symm.trans H; with_reducible exact H2_) | with_reducible exact H | (rw [hy189]; exact H) | exact H
                    have Ny189 := Aside0.mk hy189
                    clear hy189
                    replace H := Option.bind_eq_some_iff.mp H
                    obtain ⟨t192, A360, H⟩ := H
                    replace H : (some t192) = some r := H
                    have A36 := Aside0.mk A360
                    clear A360
                    obtain rfl := Option.some.inj H
                    go_wp2_with (first | ((with_reducible refine gate_dst (N := 78) rfl ?_); (try (refine gate_guard (by rfl) ?_; dsimp only)); refine Kd.R_lit k25 _ 25 ?hg (N := 78) ?hd (xs := ([] : List (S25))) (inner := []) (ok := fun _ => True) (okp := fun _ => True) ?hr ?hp (fun _ hk => hk) trivial (Below.refl _ _) (Nat.le_refl _) (by simp) ?_; (case hd => rfl); (case hg => rfl); (case hr => first | (go_simp; done) | (go_simp; rfl)); (case hp => exact (Reps.none _ _)); intro v184 w37 ho38 hb hg_ hnew_; clear hg_ hnew_; (first | rw [← Ny183.out] at ho38 | (simp only [Int.reduceToNat] at ho38; rw [← Ny183.out] at ho38)); have n0_ := Aside0.mk (Kd.R_elder' (by (with_reducible repeat (first | apply Kd.R_alloc | apply Kd.R_drewN | apply Kd.R_drew)); exact HO_13.out) (Kd.R_base ho38) hb); have n1_ := Aside0.mk (Kd.R_elder' (by (with_reducible repeat (first | apply Kd.R_alloc | apply Kd.R_drewN | apply Kd.R_drew)); exact HO_15.out) (Kd.R_base ho38) hb); have n2_ := Aside0.mk (Kd.R_elder' (by (with_reducible repeat (first | apply Kd.R_alloc | apply Kd.R_drewN | apply Kd.R_drew)); exact HO_16.out) (Kd.R_base ho38) hb); have n3_ := Aside0.mk (Kd.R_lower (Kd.R_new' (Kd.R_new' (Kd.R_new' ho38 (Kd.R_lt (by (with_reducible repeat (first | apply Kd.R_alloc | apply Kd.R_drewN | apply Kd.R_drew)); exact HO_13.out))) (Kd.R_lt (by (with_reducible repeat (first | apply Kd.R_alloc | apply Kd.R_drewN | apply Kd.R_drew)); exact HO_15.out))) (Kd.R_lt (by (with_reducible repeat (first | apply Kd.R_alloc | apply Kd.R_drewN | apply Kd.R_drew)); exact HO_16.out))) (below_size (by repeat (first | (with_reducible first | exact HB.out | apply below_alloc | apply pw_below_drewN | apply below_drew1) | exact HB.out)))); have n4_ := Aside0.mk (below_step (by repeat (first | (with_reducible first | exact HB.out | apply below_alloc | apply pw_below_drewN | apply below_drew1) | exact HB.out)) hb); clear HO_13; clear HO_15; clear HO_16; clear HB; have HO_13 := n0_; have HO_15 := n1_; have HO_16 := n2_; have HO185 := n3_; have HB := n4_; clear n0_ n1_ n2_ n3_ n4_; clear hb ho38; obtain ⟨Ao40, co40, eo40⟩ := Kd.R_slice HO_15.out; subst eo40) | ((with_reducible refine gate_builtin (b := .append) (xs := #[.tmp 78, .tmp 79]) rfl ?_); (try (refine gate_guard (by rfl) ?_; dsimp only)); at_builtin; refine Kd.R_append_rows k25 (w0 := w) w.heap.size rfl (.tmp 78) (.tmp 79) 28 25 (.agg #[(.int .u64 0), (.int .u64 0), (.int .u64 0)]) 24 rfl Try.underlying28 info25 rfl (by decide) (by omega) v184 y183 t173 _ _ _ (fun k_ => some k_ ≠ (.slice Ao21 t170.length co21 : Value).ownBlock ∧ some k_ ≠ (.slice Ao40 t173.length co40 : Value).ownBlock ∧ some k_ ≠ (v177 : Value).ownBlock) (fun _ => False) rfl rfl ?aO ?aR (fun _ _ h => h) (fun _ h => h.elim) ?aF ?aB ?aS ?aL ?_; (case aR => repeat (first | exact (Kd.R_reads' HO_15.out).2.2 | (with_reducible refine Kd.C_alloc ?_ _) | (with_reducible refine Kd.C_drewN ?_ _) | (with_reducible refine Kd.C_drew ?_))); (case aB => exact (by repeat (first | (with_reducible first | exact HB.out | apply below_alloc | apply pw_below_drewN | apply below_drew1) | exact HB.out))); (case aF => exact (fun k_ hk => ⟨Kd.fresh' (Kd.R_lt (by (with_reducible repeat (first | apply Kd.R_alloc | apply Kd.R_drewN | apply Kd.R_drew)); exact HO_13.out)) k_ hk, Kd.fresh' (Kd.R_lt (by (with_reducible repeat (first | apply Kd.R_alloc | apply Kd.R_drewN | apply Kd.R_drew)); exact HO_15.out)) k_ hk, Kd.fresh' (Kd.R_lt (by (with_reducible repeat (first | apply Kd.R_alloc | apply Kd.R_drewN | apply Kd.R_drew)); exact HO_16.out)) k_ hk⟩)); (case aO => exact (by (with_reducible repeat (first | apply Kd.R_alloc | apply Kd.R_drewN | apply Kd.R_drew)); exact Kd.R_mono HO185.out (fun _ hk => ⟨hk.1.1.2, ⟨hk.1.2, hk.2⟩⟩))); (case aS => exact (below_size (by repeat (first | (with_reducible first | exact HB.out | apply below_alloc | apply pw_below_drewN | apply below_drew1) | exact HB.out)))); (case aL => have := LMc34.out; omega); intro v187 w39 ho hb hg hat; rw [← Ny186.out] at ho; have n0_ := Aside0.mk (Kd.R_after (ok := (fun k_ => some k_ ≠ (.slice Ao40 t173.length co40 : Value).ownBlock ∧ some k_ ≠ (v177 : Value).ownBlock)) (by (with_reducible repeat (first | apply Kd.R_alloc | apply Kd.R_drewN | apply Kd.R_drew)); exact HO_13.out) hg hat); have n1_ := Aside0.mk (Kd.R_after (ok := (fun k_ => some k_ ≠ (.slice Ao21 t170.length co21 : Value).ownBlock ∧ some k_ ≠ (v177 : Value).ownBlock)) (by (with_reducible repeat (first | apply Kd.R_alloc | apply Kd.R_drewN | apply Kd.R_drew)); exact HO_15.out) hg hat); have n2_ := Aside0.mk (Kd.R_after (ok := (fun k_ => some k_ ≠ (.slice Ao21 t170.length co21 : Value).ownBlock ∧ some k_ ≠ (.slice Ao40 t173.length co40 : Value).ownBlock)) (by (with_reducible repeat (first | apply Kd.R_alloc | apply Kd.R_drewN | apply Kd.R_drew)); exact HO_16.out) hg hat); have n3_ := Aside0.mk (hb); have n4_ := Aside0.mk (ho); clear HO_13; clear HO_15; clear HO_16; clear HB; clear HO185; have HO_13 := n0_; have HO_15 := n1_; have HO_16 := n2_; have HB := n3_; have HO188 := n4_; clear n0_ n1_ n2_ n3_ n4_; clear ho hb hg hat; obtain ⟨Ao42, co42, eo42⟩ := Kd.R_slice HO_16.out; subst eo42) | ((with_reducible refine gate_builtin (b := .append) (xs := #[.tmp 80, .tmp 81]) rfl ?_); (try (refine gate_guard (by rfl) ?_; dsimp only)); at_builtin; refine Kd.R_append_rows k25 (w0 := w) w.heap.size rfl (.tmp 80) (.tmp 81) 28 25 (.agg #[(.int .u64 0), (.int .u64 0), (.int .u64 0)]) 24 rfl Try.underlying28 info25 rfl (by decide) (by omega) v187 y186 t176 _ _ _ (fun k_ => some k_ ≠ (.slice Ao21 t170.length co21 : Value).ownBlock ∧ some k_ ≠ (.slice Ao40 t173.length co40 : Value).ownBlock ∧ some k_ ≠ (.slice Ao42 t176.length co42 : Value).ownBlock) (fun _ => False) rfl rfl ?aO ?aR (fun _ _ h => h) (fun _ h => h.elim) ?aF ?aB ?aS ?aL ?_; (case aR => repeat (first | exact (Kd.R_reads' HO_16.out).2.2 | (with_reducible refine Kd.C_alloc ?_ _) | (with_reducible refine Kd.C_drewN ?_ _) | (with_reducible refine Kd.C_drew ?_))); (case aB => exact (by repeat (first | (with_reducible first | exact HB.out | apply below_alloc | apply pw_below_drewN | apply below_drew1) | exact HB.out))); (case aF => exact (fun k_ hk => ⟨Kd.fresh' (Kd.R_lt (by (with_reducible repeat (first | apply Kd.R_alloc | apply Kd.R_drewN | apply Kd.R_drew)); exact HO_13.out)) k_ hk, Kd.fresh' (Kd.R_lt (by (with_reducible repeat (first | apply Kd.R_alloc | apply Kd.R_drewN | apply Kd.R_drew)); exact HO_15.out)) k_ hk, Kd.fresh' (Kd.R_lt (by (with_reducible repeat (first | apply Kd.R_alloc | apply Kd.R_drewN | apply Kd.R_drew)); exact HO_16.out)) k_ hk⟩)); (case aO => exact (by (with_reducible repeat (first | apply Kd.R_alloc | apply Kd.R_drewN | apply Kd.R_drew)); exact HO188.out)); (case aS => exact (below_size (by repeat (first | (with_reducible first | exact HB.out | apply below_alloc | apply pw_below_drewN | apply below_drew1) | exact HB.out)))); (case aL => have := LMc35.out; omega); intro v190 w41 ho hb hg hat; rw [← Ny189.out] at ho; have n0_ := Aside0.mk (Kd.R_after (ok := (fun k_ => some k_ ≠ (.slice Ao40 t173.length co40 : Value).ownBlock ∧ some k_ ≠ (.slice Ao42 t176.length co42 : Value).ownBlock)) (by (with_reducible repeat (first | apply Kd.R_alloc | apply Kd.R_drewN | apply Kd.R_drew)); exact HO_13.out) hg hat); have n1_ := Aside0.mk (Kd.R_after (ok := (fun k_ => some k_ ≠ (.slice Ao21 t170.length co21 : Value).ownBlock ∧ some k_ ≠ (.slice Ao42 t176.length co42 : Value).ownBlock)) (by (with_reducible repeat (first | apply Kd.R_alloc | apply Kd.R_drewN | apply Kd.R_drew)); exact HO_15.out) hg hat); have n2_ := Aside0.mk (Kd.R_after (ok := (fun k_ => some k_ ≠ (.slice Ao21 t170.length co21 : Value).ownBlock ∧ some k_ ≠ (.slice Ao40 t173.length co40 : Value).ownBlock)) (by (with_reducible repeat (first | apply Kd.R_alloc | apply Kd.R_drewN | apply Kd.R_drew)); exact HO_16.out) hg hat); have n3_ := Aside0.mk (hb); have n4_ := Aside0.mk (ho); clear HO_13; clear HO_15; clear HO_16; clear HB; clear HO188; have HO_13 := n0_; have HO_15 := n1_; have HO_16 := n2_; have HB := n3_; have HO191 := n4_; clear n0_ n1_ n2_ n3_ n4_; clear ho hb hg hat; obtain ⟨Ao43, co43, eo43⟩ := Kd.R_slice HO191.out; subst eo43) | (go_at_call 16; (with_reducible refine (symbolonref11_Same.calls k1 _ _ y189 _ _ t170 t192 _ ?side1 ?side2 ?side3 ?side4 A36.out).mono ?_); (case side1 => repeat (first | exact (Kd.R_reads' HO191.out).2.2 | (with_reducible refine Kd.C_alloc ?_ _) | (with_reducible refine Kd.C_drewN ?_ _) | (with_reducible refine Kd.C_drew ?_))); (case side2 => exact (Kd.R_reads' HO191.out).2.1); (case side3 => repeat (first | exact (Kd.R_reads' HO_13.out).2.2 | (with_reducible refine Kd.C_alloc ?_ _) | (with_reducible refine Kd.C_drewN ?_ _) | (with_reducible refine Kd.C_drew ?_))); (case side4 => exact (Kd.R_reads' HO_13.out).2.1); rintro e w' ⟨rfl, ⟨nd, rfl⟩⟩))
                    go_ret
                    exact ⟨by first | rfl | (simp [errW_none, errW_some] <;> rfl) | (simp [*, errW_none, errW_some] <;> rfl), by repeat (first | (with_reducible first | exact HB.out | apply below_alloc | apply pw_below_drewN | apply below_drew1) | exact HB.out)⟩
                  · rw [if_neg c35] at H
                    exact absurd H (by simp)
                · rw [if_neg c34] at H
                  exact absurd H (by simp)
              · replace c33 := Bool.eq_false_iff.mpr c33
                subst c33
                have H1 : (some false) = some r := by rw [if_neg (show ¬ (false = true) by decide)] at H; exact H
                clear H
                have H := H1
                clear H1
                obtain rfl := Option.some.inj H
                go_wp2
                go_ret
                exact ⟨by first | rfl | (simp [errW_none, errW_some] <;> rfl) | (simp [*, errW_none, errW_some] <;> rfl), by repeat (first | (with_reducible first | exact HB.out | apply below_alloc | apply pw_below_drewN | apply below_drew1) | exact HB.out)⟩
    · rw [if_neg c15] at H
      have c15b0 : ((t170.length : Int) == (Int.tmod (wrap64 (a3)) 5000)) = false := beq_eq_false_iff_ne.mpr c15
      have c15b1 : ((t170.length : Int) != (Int.tmod (wrap64 (a3)) 5000)) = true := bne_iff_ne.mpr c15
      obtain rfl := Option.some.inj H
      go_enter Try.func5, Try.ntmps5
      go_wp2_with (first | ((with_reducible refine gate_callee (f := 13) rfl ?_); refine goesL_ (some 18) rfl rfl Try.func13 (by kernel_rfl) rfl #[] rfl (by (try simp only [List.map_toArray, List.map_cons, List.map_nil]); first | done | rfl | (simp only [List.length_drop, List.length_take]; rfl)) ?_; (with_reducible refine (symbolonlaw11_head.calls k  t169 _ A6.out).mono ?_); rintro e w44 ⟨rfl, hb⟩; refine ⟨_, rfl, ?_⟩; have n0_ := Aside0.mk (below_step (by repeat (first | (with_reducible first | exact HB.out | apply below_alloc | apply pw_below_drewN | apply below_drew1) | exact HB.out)) hb); clear HB; have HB := n0_; clear n0_; (try clear hb); (try clear hb2); (try clear hk); (try clear hi)) | ((with_reducible refine gate_callee (f := 17) rfl ?_); refine goesL_ (some 26) rfl rfl Try.func17 (by kernel_rfl) rfl #[.int .u64 a0, .int .i64 a1, .int .u64 a2, .int .i64 (Int.tmod (wrap64 (a3)) 5000)] rfl (by (try simp only [List.map_toArray, List.map_cons, List.map_nil]); first | done | rfl | (simp only [List.length_drop, List.length_take]; rfl)) ?_; (with_reducible refine (triple_Row.calls k a0 a1 a2 (Int.tmod (wrap64 (a3)) 5000) t170 _ A7.out).mono ?_); rintro e w45 ⟨v171, rfl, ho0, hb⟩; refine ⟨_, rfl, ?_⟩; have n0_ := Aside0.mk (Kd.R_lower ho0 (below_size (by repeat (first | (with_reducible first | exact HB.out | apply below_alloc | apply pw_below_drewN | apply below_drew1) | exact HB.out)))); have n1_ := Aside0.mk (below_step (by repeat (first | (with_reducible first | exact HB.out | apply below_alloc | apply pw_below_drewN | apply below_drew1) | exact HB.out)) hb); clear HB; have HO172 := n0_; have HB := n1_; clear n0_ n1_; (try clear hb); (try clear hb2); (try clear hk); (try clear hi); (try clear ho0); obtain ⟨Ao46, co46, eo46⟩ := Kd.R_slice HO172.out; subst eo46))
      go_ret
      exact ⟨by first | rfl | (simp [errW_none, errW_some] <;> rfl) | (simp [*, errW_none, errW_some] <;> rfl), by repeat (first | (with_reducible first | exact HB.out | apply below_alloc | apply pw_below_drewN | apply below_drew1) | exact HB.out)⟩

/-- THE ONE PURE STATEMENT of symbolonlaw11_TripleRow: yours. -/
def symbolonlaw11_TripleRow.Pure : Prop := ∀ (a0 : Int) (a1 : Int) (a2 : Int) (a3 : Int) (a4 : Int), (Lit.int .u64 a0).wf = true → (Lit.int .i64 a1).wf = true → (Lit.int .u64 a2).wf = true → (Lit.int .u16 a3).wf = true → (Lit.int .u16 a4).wf = true → ∃ k, symbolonlaw11_TripleRow.f k a0 a1 a2 a3 a4 = some true
theorem symbolonlaw11_TripleRow.walk (P : symbolonlaw11_TripleRow.Pure) (a0 : Int) (a1 : Int) (a2 : Int) (a3 : Int) (a4 : Int) (w : World) (w0 : (Lit.int .u64 a0).wf = true) (w1 : (Lit.int .i64 a1).wf = true) (w2 : (Lit.int .u64 a2).wf = true) (w3 : (Lit.int .u16 a3).wf = true) (w4 : (Lit.int .u16 a4).wf = true) :
    Calls Try.prog 5 #[.int .u64 a0, .int .i64 a1, .int .u64 a2, .int .u16 a3, .int .u16 a4] w fun e w' => e = .returned (.bool true) ∧ Below w.heap.size w w' := by
  obtain ⟨k, h⟩ := P a0 a1 a2 a3 a4 w0 w1 w2 w3 w4
  refine (symbolonlaw11_TripleRow.calls k a0 a1 a2 a3 a4 true w h).mono ?_
  rintro e w' ⟨rfl, hd⟩
  exact ⟨rfl, hd⟩

end Go.Proofs.Ytlfjebbcmngihaa.PTr
