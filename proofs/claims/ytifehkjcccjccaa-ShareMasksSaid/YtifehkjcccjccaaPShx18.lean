/- The Go functions that this seat's statements reach: each with the plain function that it computes, for every input at which that function answers. Written by a program of the session (wip/tools/hprint.py) over the kit's printer; contracts that the printer does not take are proved by hand among them. -/
import Derived.Test.YtifehkjcccjccaaPShx0
import Derived.Test.YtifehkjcccjccaaPShx2
import Derived.Test.YtifehkjcccjccaaPShx6
import Derived.Test.YtifehkjcccjccaaPShx12
import Derived.Test.YtifehkjcccjccaaPShx13
namespace Go.Proofs.Ytifehkjcccjccaa.PSh
open Go.RowKit Go.Proofs.YtifehkjcccjccaaW.PrintWords Go.Proofs.YtifehkjcccjccaaW.PrintLast Go.Proofs.YtifehkjcccjccaaW.PrintMore
attribute [local go_sem] max2_int min2_int max_two min_two max_three min_three max_four min_four   -- for this text's walks alone
set_option linter.unusedVariables false
set_option linter.unusedSimpArgs false

/-! ### symbolonlaw10_ShareMasks: function 12 -/
def symbolonlaw10_ShareMasks.f (k : Nat) (a0 : Int) (l1 : List Int) (l2 : List Int) : Option (Bool) := (symbolonlaw10_head.f k).bind fun t254 => (if (mn (l1.length : Int) (l2.length : Int)) > 4096 then (some t254) else (if 0 ≤ (mn (l1.length : Int) (l2.length : Int)) then (if (mn (l1.length : Int) (l2.length : Int)) ≤ (l1.length : Int) then ((share_Split.f k a0 (l1.take ((mn (l1.length : Int) (l2.length : Int)) : Int).toNat)).bind fun bt256 => (if (mn (l1.length : Int) (l2.length : Int)) ≤ (l2.length : Int) then ((share_Split.f k a0 (l2.take ((mn (l1.length : Int) (l2.length : Int)) : Int).toNat)).bind fun bt263 => (if t254 = true then ((symbolonref01_Same.f k bt256.1 bt263.1).bind fun t269 => (if t269 = true then ((symbolonref01_Sub.f k bt256.2 bt263.2).bind fun t270 => ((symbolonref01_Sub.f k (l1.take ((mn (l1.length : Int) (l2.length : Int)) : Int).toNat) (l2.take ((mn (l1.length : Int) (l2.length : Int)) : Int).toNat)).bind fun t275 => ((symbolonref01_Same.f k t270 t275).bind fun t278 => (some t278)))) else (none))) else (none))) else (none))) else (none)) else (none)))
theorem symbolonlaw10_ShareMasks.mono : ∀ a0 a1 a2 k, LeO (symbolonlaw10_ShareMasks.f k a0 a1 a2) (symbolonlaw10_ShareMasks.f (k + 1) a0 a1 a2) := by
  intro a0 a1 a2 k
  unfold symbolonlaw10_ShareMasks.f
  repeat' first
      | (with_reducible exact share_Split.mono _ _ _)
      | (with_reducible exact symbolonlaw10_head.mono _)
      | (with_reducible exact symbolonref01_Same.mono _ _ _)
      | (with_reducible exact symbolonref01_Sub.mono _ _ _)
      | (with_reducible exact LeO.refl _)
      | (with_reducible exact LeO.none _)
      | (with_reducible refine LeO.ite ?_ ?_)
      | (with_reducible refine LeO.bind ?_ (fun _ => ?_))
      | exact share_Split.mono _ _ _
      | exact symbolonlaw10_head.mono _
      | exact symbolonref01_Same.mono _ _ _
      | exact symbolonref01_Sub.mono _ _ _
      | exact LeO.none _
      | refine LeO.ite ?_ ?_
      | refine LeO.bind ?_ (fun _ => ?_)
def symbolonlaw10_ShareMasks.T7 : Bool × List (List Nat × List Nat) := (true, [([], []), ([0], [0]), ([1], [1]), ([1], [1]), ([2, 3, 1, 1], [1, 2, 3]), ([1, 4], [1, 4]), ([5, 4], [5]), ([6], [6]), ([6], [6]), ([7, 8, 6, 6], [6, 7, 8]), ([6], [6]), ([6], [6]), ([10, 11, 6], [6, 10, 11]), ([6], [6]), ([6], [6]), ([13, 14, 6], [6, 13, 14]), ([12, 15, 9, 6], [6, 12, 15]), ([9, 16, 16, 6], [6, 9, 16]), ([6, 17], [6, 17]), ([18, 17, 0, 1, 2, 3, 4, 5, 6, 7, 8, 9, 10, 11, 12, 13, 14, 15, 16, 17, 18], [18])])
def symbolonlaw10_ShareMasks.B7 : List Nat := [0, 1, 3, 3, 15, 31, 63, 127, 127, 511, 127, 127, 3199, 127, 127, 24703, 65535, 131071, 262143, 524287]
theorem symbolonlaw10_ShareMasks.tab7 : rtab .any (opsOf Try.f12 7) = symbolonlaw10_ShareMasks.T7 := by kernel_rfl
theorem symbolonlaw10_ShareMasks.bits7 : waitsOk symbolonlaw10_ShareMasks.T7.2 symbolonlaw10_ShareMasks.B7 = true := by kernel_rfl
set_option maxHeartbeats 8000000 in
set_option maxRecDepth 100000 in
theorem symbolonlaw10_ShareMasks.calls (k : Nat) (a0 : Int) (A1 : Option Addr) (c1 : Nat) (l1 : List Int) (A2 : Option Addr) (c2 : Nat) (l2 : List Int) (r : Bool) (w : World) (hr1 : Kd.C (Kd.int .u64) w A1 l1.length l1) (hc1 : l1.length ≤ c1) (hr2 : Kd.C (Kd.int .u64) w A2 l2.length l2) (hc2 : l2.length ≤ c2) (h : symbolonlaw10_ShareMasks.f k a0 l1 l2 = some r) :
    Calls Try.prog 12 #[.int .u64 a0, .slice A1 l1.length c1, .slice A2 l2.length c2] w fun e w' => e = .returned (.bool r) ∧ Below w.heap.size w w' := by
  have HR1 := Aside0.mk hr1
  have HC1 := Aside0.mk hc1
  clear hr1 hc1
  have HR2 := Aside0.mk hr2
  have HC2 := Aside0.mk hc2
  clear hr2 hc2
  have HB := Aside0.mk (Below.refl w.heap.size w)
  have H : ((symbolonlaw10_head.f k).bind fun t254 => (if (mn (l1.length : Int) (l2.length : Int)) > 4096 then (some t254) else (if 0 ≤ (mn (l1.length : Int) (l2.length : Int)) then (if (mn (l1.length : Int) (l2.length : Int)) ≤ (l1.length : Int) then ((share_Split.f k a0 (l1.take ((mn (l1.length : Int) (l2.length : Int)) : Int).toNat)).bind fun bt256 => (if (mn (l1.length : Int) (l2.length : Int)) ≤ (l2.length : Int) then ((share_Split.f k a0 (l2.take ((mn (l1.length : Int) (l2.length : Int)) : Int).toNat)).bind fun bt263 => (if t254 = true then ((symbolonref01_Same.f k bt256.1 bt263.1).bind fun t269 => (if t269 = true then ((symbolonref01_Sub.f k bt256.2 bt263.2).bind fun t270 => ((symbolonref01_Sub.f k (l1.take ((mn (l1.length : Int) (l2.length : Int)) : Int).toNat) (l2.take ((mn (l1.length : Int) (l2.length : Int)) : Int).toNat)).bind fun t275 => ((symbolonref01_Same.f k t270 t275).bind fun t278 => (some t278)))) else (none))) else (none))) else (none))) else (none)) else (none)))) = some r := h
  clear h
  replace H := Option.bind_eq_some_iff.mp H
  obtain ⟨t254, A40, H⟩ := H
  replace H : (if (mn (l1.length : Int) (l2.length : Int)) > 4096 then (some t254) else (if 0 ≤ (mn (l1.length : Int) (l2.length : Int)) then (if (mn (l1.length : Int) (l2.length : Int)) ≤ (l1.length : Int) then ((share_Split.f k a0 (l1.take ((mn (l1.length : Int) (l2.length : Int)) : Int).toNat)).bind fun bt256 => (if (mn (l1.length : Int) (l2.length : Int)) ≤ (l2.length : Int) then ((share_Split.f k a0 (l2.take ((mn (l1.length : Int) (l2.length : Int)) : Int).toNat)).bind fun bt263 => (if t254 = true then ((symbolonref01_Same.f k bt256.1 bt263.1).bind fun t269 => (if t269 = true then ((symbolonref01_Sub.f k bt256.2 bt263.2).bind fun t270 => ((symbolonref01_Sub.f k (l1.take ((mn (l1.length : Int) (l2.length : Int)) : Int).toNat) (l2.take ((mn (l1.length : Int) (l2.length : Int)) : Int).toNat)).bind fun t275 => ((symbolonref01_Same.f k t270 t275).bind fun t278 => (some t278)))) else (none))) else (none))) else (none))) else (none)) else (none))) = some r := H
  have A4 := Aside0.mk A40
  clear A40
  obtain ⟨ji5, hji5⟩ : ∃ j_ : Int, (mn (l1.length : Int) (l2.length : Int)) = j_ := ⟨_, rfl⟩
  replace H : (if (ji5) > 4096 then (some t254) else (if 0 ≤ (ji5) then (if (ji5) ≤ (l1.length : Int) then ((share_Split.f k a0 (l1.take ((ji5) : Int).toNat)).bind fun bt256 => (if (ji5) ≤ (l2.length : Int) then ((share_Split.f k a0 (l2.take ((ji5) : Int).toNat)).bind fun bt263 => (if t254 = true then ((symbolonref01_Same.f k bt256.1 bt263.1).bind fun t269 => (if t269 = true then ((symbolonref01_Sub.f k bt256.2 bt263.2).bind fun t270 => ((symbolonref01_Sub.f k (l1.take ((ji5) : Int).toNat) (l2.take ((ji5) : Int).toNat)).bind fun t275 => ((symbolonref01_Same.f k t270 t275).bind fun t278 => (some t278)))) else (none))) else (none))) else (none))) else (none)) else (none))) = some r := by first | (rw [hji5] at H; exact H) | (simp only [hji5] at H ⊢; exact H)
  obtain ⟨yc2, hyc2⟩ : ∃ y_, y_ = (l2.take ((ji5) : Int).toNat) := ⟨_, rfl⟩
  rw [← hyc2] at H
  have Nyc2 := Aside0.mk hyc2
  clear hyc2
  obtain ⟨yc1, hyc1⟩ : ∃ y_, y_ = (l1.take ((ji5) : Int).toNat) := ⟨_, rfl⟩
  rw [← hyc1] at H
  have Nyc1 := Aside0.mk hyc1
  clear hyc1
  (try rw [hji5] at A4)
  (try (have hji5l : 0 ≤ ji5 := by (rw [← hji5]; unfold mn; (repeat' split) <;> omega)))
  (try (have hji5m : 0 ≤ ji5 := by omega))
  have hji5_ : (if (l2.length : Int) < (l1.length : Int) then (l2.length : Int) else (l1.length : Int)) = ji5 := hji5
  have hji5_n : (if l2.length < l1.length then (l2.length : Int) else (l1.length : Int)) = ji5 := by rw [← hji5_]; simp only [Int.ofNat_lt]
  by_cases c6 : (ji5) > 4096
  · rw [if_pos c6] at H
    have c6b0 : decide (4096 < (ji5)) = true := decide_eq_true c6
    clear c6
    obtain rfl := Option.some.inj H
    go_enter Try.func12, Try.ntmps12
    go_wp2_with (first | ((with_reducible refine gate_callee (f := 33) rfl ?_); refine goesL_ (some 13) rfl rfl Try.func33 (by kernel_rfl) rfl #[] rfl (by (try simp only [List.map_toArray, List.map_cons, List.map_nil]); first | done | rfl | (simp only [List.length_drop, List.length_take]; rfl)) ?_; (with_reducible refine (symbolonlaw10_head.calls k  t254 _ A4.out).mono ?_); rintro e w7 ⟨rfl, hb⟩; refine ⟨_, rfl, ?_⟩; have n0_ := Aside0.mk (below_step (by repeat (first | (with_reducible first | exact HB.out | apply below_alloc | apply pw_below_drewN | apply below_drew1) | exact HB.out)) hb); clear HB; have HB := n0_; clear n0_; (try clear hb); (try clear hb2); (try clear hk); (try clear hi)))
    go_ret
    exact ⟨by first | rfl | (simp [errW_none, errW_some] <;> rfl) | (simp only [← hji5]; first | rfl | (simp [errW_none, errW_some] <;> rfl)) | (simp [*, errW_none, errW_some] <;> rfl), by repeat (first | (with_reducible first | exact HB.out | apply below_alloc | apply pw_below_drewN | apply below_drew1) | exact HB.out)⟩
  · rw [if_neg c6] at H
    have c6b0 : decide (4096 < (ji5)) = false := decide_eq_false c6
    clear c6
    by_cases c8 : 0 ≤ (ji5)
    · rw [if_pos c8] at H
      have c8b0 := eq_true c8
      have c8b1 : decide (0 ≤ (ji5)) = true := decide_eq_true c8
      clear c8
      by_cases c9 : (ji5) ≤ (l1.length : Int)
      · rw [if_pos c9] at H
        have c9b0 := eq_true c9
        have c9b1 : decide ((ji5) ≤ (l1.length : Int)) = true := decide_eq_true c9
        clear c9
        replace H := Option.bind_eq_some_iff.mp H
        obtain ⟨⟨t256, t257⟩, A100, H⟩ := H
        replace H : (if (ji5) ≤ (l2.length : Int) then ((share_Split.f k a0 yc2).bind fun bt263 => (if t254 = true then ((symbolonref01_Same.f k t256 bt263.1).bind fun t269 => (if t269 = true then ((symbolonref01_Sub.f k t257 bt263.2).bind fun t270 => ((symbolonref01_Sub.f k yc1 yc2).bind fun t275 => ((symbolonref01_Same.f k t270 t275).bind fun t278 => (some t278)))) else (none))) else (none))) else (none)) = some r := H
        have A10 := Aside0.mk A100
        clear A100
        have c11b0 := eq_true (of_decide_eq_true (by first | (with_reducible assumption) | assumption) : 0 ≤ (ji5))
        by_cases c12 : (ji5) ≤ (l2.length : Int)
        · rw [if_pos c12] at H
          have c12b0 := eq_true c12
          have c12b1 : decide ((ji5) ≤ (l2.length : Int)) = true := decide_eq_true c12
          clear c12
          replace H := Option.bind_eq_some_iff.mp H
          obtain ⟨⟨t263, t264⟩, A130, H⟩ := H
          replace H : (if t254 = true then ((symbolonref01_Same.f k t256 t263).bind fun t269 => (if t269 = true then ((symbolonref01_Sub.f k t257 t264).bind fun t270 => ((symbolonref01_Sub.f k yc1 yc2).bind fun t275 => ((symbolonref01_Same.f k t270 t275).bind fun t278 => (some t278)))) else (none))) else (none)) = some r := H
          have A13 := Aside0.mk A130
          clear A130
          by_cases c14 : t254 = true
          · subst c14
            have H1 : ((symbolonref01_Same.f k t256 t263).bind fun t269 => (if t269 = true then ((symbolonref01_Sub.f k t257 t264).bind fun t270 => ((symbolonref01_Sub.f k yc1 yc2).bind fun t275 => ((symbolonref01_Same.f k t270 t275).bind fun t278 => (some t278)))) else (none))) = some r := by rw [if_pos rfl] at H; exact H
            clear H
            have H := H1
            clear H1
            replace H := Option.bind_eq_some_iff.mp H
            obtain ⟨t269, A150, H⟩ := H
            replace H : (if t269 = true then ((symbolonref01_Sub.f k t257 t264).bind fun t270 => ((symbolonref01_Sub.f k yc1 yc2).bind fun t275 => ((symbolonref01_Same.f k t270 t275).bind fun t278 => (some t278)))) else (none)) = some r := H
            have A15 := Aside0.mk A150
            clear A150
            by_cases c16 : t269 = true
            · subst c16
              have H1 : ((symbolonref01_Sub.f k t257 t264).bind fun t270 => ((symbolonref01_Sub.f k yc1 yc2).bind fun t275 => ((symbolonref01_Same.f k t270 t275).bind fun t278 => (some t278)))) = some r := by rw [if_pos rfl] at H; exact H
              clear H
              have H := H1
              clear H1
              replace H := Option.bind_eq_some_iff.mp H
              obtain ⟨t270, A170, H⟩ := H
              replace H : ((symbolonref01_Sub.f k yc1 yc2).bind fun t275 => ((symbolonref01_Same.f k t270 t275).bind fun t278 => (some t278))) = some r := H
              have A17 := Aside0.mk A170
              clear A170
              have c18b0 := eq_true (of_decide_eq_true (by first | (with_reducible assumption) | assumption) : 0 ≤ (ji5))
              have c19b0 := eq_true (of_decide_eq_true (by first | (with_reducible assumption) | assumption) : (ji5) ≤ (l1.length : Int))
              have c20b0 := eq_true (of_decide_eq_true (by first | (with_reducible assumption) | assumption) : 0 ≤ (ji5))
              have c21b0 := eq_true (of_decide_eq_true (by first | (with_reducible assumption) | assumption) : (ji5) ≤ (l2.length : Int))
              replace H := Option.bind_eq_some_iff.mp H
              obtain ⟨t275, A220, H⟩ := H
              replace H : ((symbolonref01_Same.f k t270 t275).bind fun t278 => (some t278)) = some r := H
              have A22 := Aside0.mk A220
              clear A220
              replace H := Option.bind_eq_some_iff.mp H
              obtain ⟨t278, A230, H⟩ := H
              replace H : (some t278) = some r := H
              have A23 := Aside0.mk A230
              clear A230
              obtain rfl := Option.some.inj H
              go_enter Try.func12, Try.ntmps12
              try go_wp2_with (first | ((with_reducible refine gate_callee (f := 33) rfl ?_); refine goesL_ (some 13) rfl rfl Try.func33 (by kernel_rfl) rfl #[] rfl (by (try simp only [List.map_toArray, List.map_cons, List.map_nil]); first | done | rfl | (simp only [List.length_drop, List.length_take]; rfl)) ?_; (with_reducible refine (symbolonlaw10_head.calls k  true _ A4.out).mono ?_); rintro e w24 ⟨rfl, hb⟩; refine ⟨_, rfl, ?_⟩; have n0_ := Aside0.mk (below_step (by repeat (first | (with_reducible first | exact HB.out | apply below_alloc | apply pw_below_drewN | apply below_drew1) | exact HB.out)) hb); clear HB; have HB := n0_; clear n0_; (try clear hb); (try clear hb2); (try clear hk); (try clear hi); obtain ⟨i025, hi025, _, hsz25, _⟩ := info_parts info23; obtain ⟨hcut25, hA25, hC25⟩ := print_take_of (P := Try.prog) (Value.int .u64) 0 22 23 .i64 Try.underlying22 hi025 hsz25 A1 c1 l1 (ji5) (of_decide_eq_true (by first | (with_reducible assumption) | assumption)) (of_decide_eq_true (by first | (with_reducible assumption) | assumption)) HC1.out; (try rw [← Nyc1.out] at hcut25); (try rw [← Nyc1.out] at hA25); (try rw [← Nyc1.out] at hC25); (try rw [← Nyc2.out] at hcut25); (try rw [← Nyc2.out] at hA25); (try rw [← Nyc2.out] at hC25); have HR255 := Aside0.mk (Kd.C_of_reads (h1 := fun _ => rfl) (hA25 _ (Kd.reads_of_C HR1.out))); have HC255 := Aside0.mk hC25; clear hA25 hC25 hi025 hsz25) | ((with_reducible refine gate_callee (f := 35) rfl ?_); refine goesL_ (some 27) rfl rfl Try.func35 (by kernel_rfl) rfl #[.int .u64 a0, .slice A1 yc1.length c1] rfl (by (try simp only [List.map_toArray, List.map_cons, List.map_nil]); first | done | (simp only [hji5]; rfl) | rfl | (simp only [List.length_drop, List.length_take]; rfl)) ?_; (with_reducible refine (share_Split.calls k a0 _ _ yc1 t256 t257 _ ?side1 ?side2 A10.out).mono ?_); (case side1 => repeat (first | exact (Kd.C_below HR255.out HB.out) | (with_reducible refine Kd.C_alloc ?_ _) | (with_reducible refine Kd.C_drewN ?_ _) | (with_reducible refine Kd.C_drew ?_))); (case side2 => exact HC255.out); rintro e w26 ⟨v258, v260, rfl, ho0, ho1, hb⟩; refine ⟨_, rfl, ?_⟩; have n0_ := Aside0.mk (Kd.R_lower ho0 (below_size (by repeat (first | (with_reducible first | exact HB.out | apply below_alloc | apply pw_below_drewN | apply below_drew1) | exact HB.out)))); have n1_ := Aside0.mk (Kd.R_lower ho1 (below_size (by repeat (first | (with_reducible first | exact HB.out | apply below_alloc | apply pw_below_drewN | apply below_drew1) | exact HB.out)))); have n2_ := Aside0.mk (below_step (by repeat (first | (with_reducible first | exact HB.out | apply below_alloc | apply pw_below_drewN | apply below_drew1) | exact HB.out)) hb); clear HB; have HO259 := n0_; have HO261 := n1_; have HB := n2_; clear n0_ n1_ n2_; (try clear hb); (try clear hb2); (try clear hk); (try clear hi); (try clear ho0); (try clear ho1); obtain ⟨i027, hi027, _, hsz27, _⟩ := info_parts info23; obtain ⟨hcut27, hA27, hC27⟩ := print_take_of (P := Try.prog) (Value.int .u64) 0 22 23 .i64 Try.underlying22 hi027 hsz27 A2 c2 l2 (ji5) (of_decide_eq_true (by first | (with_reducible assumption) | assumption)) (of_decide_eq_true (by first | (with_reducible assumption) | assumption)) HC2.out; (try rw [← Nyc1.out] at hcut27); (try rw [← Nyc1.out] at hA27); (try rw [← Nyc1.out] at hC27); (try rw [← Nyc2.out] at hcut27); (try rw [← Nyc2.out] at hA27); (try rw [← Nyc2.out] at hC27); have HR262 := Aside0.mk (Kd.C_of_reads (h1 := fun _ => rfl) (hA27 _ (Kd.reads_of_C HR2.out))); have HC262 := Aside0.mk hC27; clear hA27 hC27 hi027 hsz27) | ((with_reducible refine gate_callee (f := 35) rfl ?_); refine goesL_ (some 35) rfl rfl Try.func35 (by kernel_rfl) rfl #[.int .u64 a0, .slice A2 yc2.length c2] rfl (by (try simp only [List.map_toArray, List.map_cons, List.map_nil]); first | done | (simp only [hji5]; rfl) | rfl | (simp only [List.length_drop, List.length_take]; rfl)) ?_; (with_reducible refine (share_Split.calls k a0 _ _ yc2 t263 t264 _ ?side1 ?side2 A13.out).mono ?_); (case side1 => repeat (first | exact (Kd.C_below HR262.out HB.out) | (with_reducible refine Kd.C_alloc ?_ _) | (with_reducible refine Kd.C_drewN ?_ _) | (with_reducible refine Kd.C_drew ?_))); (case side2 => exact HC262.out); rintro e w28 ⟨v265, v267, rfl, ho0, ho1, hb⟩; refine ⟨_, rfl, ?_⟩; have n0_ := Aside0.mk (Kd.R_mono (Kd.R_told (Kd.R_told (Kd.R_old (by (with_reducible repeat (first | apply Kd.R_alloc | apply Kd.R_drewN | apply Kd.R_drew)); exact HO259.out) hb) (Kd.R_base ho0)) (Kd.R_base ho1)) (fun _ h_ => h_.1)); have n1_ := Aside0.mk (Kd.R_mono (Kd.R_told (Kd.R_told (Kd.R_old (by (with_reducible repeat (first | apply Kd.R_alloc | apply Kd.R_drewN | apply Kd.R_drew)); exact HO261.out) hb) (Kd.R_base ho0)) (Kd.R_base ho1)) (fun _ h_ => h_.1)); have n2_ := Aside0.mk (Kd.R_lower (Kd.R_new' (Kd.R_new' ho0 (Kd.R_lt (by (with_reducible repeat (first | apply Kd.R_alloc | apply Kd.R_drewN | apply Kd.R_drew)); exact HO259.out))) (Kd.R_lt (by (with_reducible repeat (first | apply Kd.R_alloc | apply Kd.R_drewN | apply Kd.R_drew)); exact HO261.out))) (below_size (by repeat (first | (with_reducible first | exact HB.out | apply below_alloc | apply pw_below_drewN | apply below_drew1) | exact HB.out)))); have n3_ := Aside0.mk (Kd.R_lower (Kd.R_new' (Kd.R_new' ho1 (Kd.R_lt (by (with_reducible repeat (first | apply Kd.R_alloc | apply Kd.R_drewN | apply Kd.R_drew)); exact HO259.out))) (Kd.R_lt (by (with_reducible repeat (first | apply Kd.R_alloc | apply Kd.R_drewN | apply Kd.R_drew)); exact HO261.out))) (below_size (by repeat (first | (with_reducible first | exact HB.out | apply below_alloc | apply pw_below_drewN | apply below_drew1) | exact HB.out)))); have n4_ := Aside0.mk (below_step (by repeat (first | (with_reducible first | exact HB.out | apply below_alloc | apply pw_below_drewN | apply below_drew1) | exact HB.out)) hb); clear HO259; clear HO261; clear HB; have HO259 := n0_; have HO261 := n1_; have HO266 := n2_; have HO268 := n3_; have HB := n4_; clear n0_ n1_ n2_ n3_ n4_; (try clear hb); (try clear hb2); (try clear hk); (try clear hi); (try clear ho0); (try clear ho1)))
              have n0_ := Aside0.mk (Kd.R_drew HO259.out)
              have n1_ := Aside0.mk (Kd.R_drew HO261.out)
              have n2_ := Aside0.mk (Kd.R_drew HO266.out)
              have n3_ := Aside0.mk (Kd.R_drew HO268.out)
              have n4_ := Aside0.mk (below_drew1 HB.out)
              clear HO259
              clear HO261
              clear HO266
              clear HO268
              clear HB
              have HO259 := n0_
              have HO261 := n1_
              have HO266 := n2_
              have HO268 := n3_
              have HB := n4_
              clear n0_ n1_ n2_ n3_ n4_
              obtain ⟨Ao30, co30, eo30⟩ := Kd.R_slice HO259.out
              (first | subst eo30 | (injection eo30 with f1_ f2_ f3_; have f4_ := f1_.symm; have f5_ := f3_.symm; clear f1_ f2_ f3_; subst f4_; subst f5_))
              obtain ⟨Ao31, co31, eo31⟩ := Kd.R_slice HO266.out
              (first | subst eo31 | (injection eo31 with f1_ f2_ f3_; have f4_ := f1_.symm; have f5_ := f3_.symm; clear f1_ f2_ f3_; subst f4_; subst f5_))
              refine start_ (n := 20) (S := fun w' => True) (ds := []) #[false, false, false, false, false, false, false, false, false, false, false, false, false, false, false, false, false, false, false, false] (by kernel_rfl) rfl rfl trivial (fun hHeld => ?_); refine with_tabW symbolonlaw10_ShareMasks.tab7 symbolonlaw10_ShareMasks.bits7 (fun HT_ HW_ => ?_)
              generalize w28.drew = w29 at HO259 HO261 HO266 HO268 HB hHeld ⊢
              refine pure_ (i := 0) (N := some 38) (v := ?_) (a' := ?_) #[true, false, false, false, false, false, false, false, false, false, false, false, false, false, false, false, false, false, false, false] rfl rfl (any_of HT_.out (by kernel_rfl)) (fun _ _ _ h => h) (Or.inl ⟨by rfl, ?_⟩) ?_ ?_
              rotate_left
              · intro w'
                go_simp
                with_reducible rfl
              rotate_left
              · simp only [Act.put, List.setIfInBounds_toArray, List.set_cons_zero, List.set_cons_succ, i64_w, i32_w]
                rfl
              refine pure_ (i := 1) (N := some 39) (v := ?_) (a' := ?_) #[true, true, false, false, false, false, false, false, false, false, false, false, false, false, false, false, false, false, false, false] rfl rfl (any_of HT_.out (by kernel_rfl)) (fun _ _ _ h => h) (Or.inl ⟨by rfl, ?_⟩) ?_ ?_
              rotate_left
              · intro w'
                go_simp
                with_reducible rfl
              rotate_left
              · simp only [Act.put, List.setIfInBounds_toArray, List.set_cons_zero, List.set_cons_succ, i64_w, i32_w]
                rfl
              refine pure_ (i := 2) (N := some 40) (v := ?_) (a' := ?_) #[true, true, true, false, false, false, false, false, false, false, false, false, false, false, false, false, false, false, false, false] rfl rfl (any_of HT_.out (by kernel_rfl)) (fun _ _ _ h => h) (Or.inl ⟨by rfl, ?_⟩) ?_ ?_
              rotate_left
              · intro w'
                go_simp
                with_reducible rfl
              rotate_left
              · simp only [Act.put, List.setIfInBounds_toArray, List.set_cons_zero, List.set_cons_succ, i64_w, i32_w]
                rfl
              refine pure_ (i := 3) (N := some 41) (v := ?_) (a' := ?_) #[true, true, true, true, false, false, false, false, false, false, false, false, false, false, false, false, false, false, false, false] rfl rfl (any_of HT_.out (by kernel_rfl)) (fun _ _ _ h => h) (Or.inl ⟨by rfl, ?_⟩) ?_ ?_
              rotate_left
              · intro w'
                go_simp
                with_reducible rfl
              rotate_left
              · simp only [Act.put, List.setIfInBounds_toArray, List.set_cons_zero, List.set_cons_succ, i64_w, i32_w]
                rfl
              refine one_ (i := 4) (N := some 42) #[true, true, true, true, true, false, false, false, false, false, false, false, false, false, false, false, false, false, false, false] rfl rfl (one_of HT_.out (by kernel_rfl)) (by decide) (fun K hK => ?_)
              refine goes_ Try.func20 (by kernel_rfl) rfl #[.slice Ao30 t256.length co30, .slice Ao31 t263.length co31] (by rfl) rfl rfl (by (try simp only [List.map_toArray, List.map_cons, List.map_nil]); first | done | rfl | (simp only [List.length_drop, List.length_take]; rfl)) ?_
              with_reducible refine (symbolonref01_Same.calls k _ _ t256 _ _ t263 true _ ?side1 ?side2 ?side3 ?side4 A15.out).mono ?_
              (case side1 => repeat (first | exact (Kd.R_reads' HO259.out).2.2 | (with_reducible refine Kd.C_alloc ?_ _) | (with_reducible refine Kd.C_drewN ?_ _) | (with_reducible refine Kd.C_drew ?_)))
              (case side2 => exact (Kd.R_reads' HO259.out).2.1)
              (case side3 => repeat (first | exact (Kd.R_reads' HO266.out).2.2 | (with_reducible refine Kd.C_alloc ?_ _) | (with_reducible refine Kd.C_drewN ?_ _) | (with_reducible refine Kd.C_drew ?_)))
              (case side4 => exact (Kd.R_reads' HO266.out).2.1)
              rintro e w' ⟨rfl, ⟨nd, rfl⟩⟩
              refine ⟨_, rfl, ?_⟩
              obtain ⟨Ao32, co32, eo32⟩ := Kd.R_slice HO261.out
              (first | subst eo32 | (injection eo32 with f1_ f2_ f3_; have f4_ := f1_.symm; have f5_ := f3_.symm; clear f1_ f2_ f3_; subst f4_; subst f5_))
              obtain ⟨Ao33, co33, eo33⟩ := Kd.R_slice HO268.out
              (first | subst eo33 | (injection eo33 with f1_ f2_ f3_; have f4_ := f1_.symm; have f5_ := f3_.symm; clear f1_ f2_ f3_; subst f4_; subst f5_))
              refine hK.out _ _ trivial (fun hHeld => ?_)
              clear hK K
              refine norm_ (a' := ?_) ?_ ?_
              rotate_left
              · show Act.put _ (some 42) _ = _
                simp only [Act.put, List.setIfInBounds_toArray, List.set_cons_zero, List.set_cons_succ, i64_w, i32_w]
                rfl
              refine pure_ (i := 5) (N := some 43) (v := ?_) (a' := ?_) #[true, true, true, true, true, true, false, false, false, false, false, false, false, false, false, false, false, false, false, false] rfl rfl (any_of HT_.out (by kernel_rfl)) (fun _ _ _ h => h) (Or.inl ⟨by rfl, ?_⟩) ?_ ?_
              rotate_left
              · intro w'
                go_simp
                with_reducible rfl
              rotate_left
              · simp only [Act.put, List.setIfInBounds_toArray, List.set_cons_zero, List.set_cons_succ, i64_w, i32_w]
                rfl
              refine pure_ (i := 6) (N := some 44) (v := ?_) (a' := ?_) #[true, true, true, true, true, true, true, false, false, false, false, false, false, false, false, false, false, false, false, false] rfl rfl (any_of HT_.out (by kernel_rfl)) (fun _ _ _ h => h) (Or.inl ⟨by rfl, ?_⟩) ?_ ?_
              rotate_left
              · intro w'
                go_simp
                with_reducible rfl
              rotate_left
              · simp only [Act.put, List.setIfInBounds_toArray, List.set_cons_zero, List.set_cons_succ, i64_w, i32_w]
                rfl
              refine pure_ (i := 7) (N := some 45) (v := ?_) (a' := ?_) #[true, true, true, true, true, true, true, true, false, false, false, false, false, false, false, false, false, false, false, false] rfl rfl (any_of HT_.out (by kernel_rfl)) (fun _ _ _ h => h) (Or.inl ⟨by rfl, ?_⟩) ?_ ?_
              rotate_left
              · intro w'
                go_simp
                with_reducible rfl
              rotate_left
              · simp only [Act.put, List.setIfInBounds_toArray, List.set_cons_zero, List.set_cons_succ, i64_w, i32_w]
                rfl
              refine pure_ (i := 8) (N := some 46) (v := ?_) (a' := ?_) #[true, true, true, true, true, true, true, true, true, false, false, false, false, false, false, false, false, false, false, false] rfl rfl (any_of HT_.out (by kernel_rfl)) (fun _ _ _ h => h) (Or.inl ⟨by rfl, ?_⟩) ?_ ?_
              rotate_left
              · intro w'
                go_simp
                with_reducible rfl
              rotate_left
              · simp only [Act.put, List.setIfInBounds_toArray, List.set_cons_zero, List.set_cons_succ, i64_w, i32_w]
                rfl
              refine pure_ (i := 10) (N := some 48) (v := ?_) (a' := ?_) #[true, true, true, true, true, true, true, true, true, false, true, false, false, false, false, false, false, false, false, false] rfl rfl (any_of HT_.out (by kernel_rfl)) (fun _ _ _ h => h) (Or.inl ⟨by rfl, ?_⟩) ?_ ?_
              rotate_left
              · intro w'
                go_simp
                with_reducible rfl
              rotate_left
              · simp only [Act.put, List.setIfInBounds_toArray, List.set_cons_zero, List.set_cons_succ, i64_w, i32_w]
                rfl
              refine pure_ (i := 11) (N := some 49) (v := ?_) (a' := ?_) #[true, true, true, true, true, true, true, true, true, false, true, true, false, false, false, false, false, false, false, false] rfl rfl (any_of HT_.out (by kernel_rfl)) (fun _ _ _ h => h) (Or.inl ⟨by rfl, ?_⟩) ?_ ?_
              rotate_left
              · intro w'
                go_simp
                with_reducible rfl
              rotate_left
              · simp only [Act.put, List.setIfInBounds_toArray, List.set_cons_zero, List.set_cons_succ, i64_w, i32_w]
                rfl
              refine pure_ (i := 12) (N := some 50) (v := ?_) (a' := ?_) #[true, true, true, true, true, true, true, true, true, false, true, true, true, false, false, false, false, false, false, false] rfl rfl (any_of HT_.out (by kernel_rfl)) (fun _ _ _ h => h) (Or.inl ⟨by rfl, ?_⟩) ?_ ?_
              rotate_left
              · intro w'
                go_simp
                with_reducible rfl
              rotate_left
              · simp only [Act.put, List.setIfInBounds_toArray, List.set_cons_zero, List.set_cons_succ, i64_w, i32_w]
                rfl
              refine pure_ (i := 13) (N := some 51) (v := ?_) (a' := ?_) #[true, true, true, true, true, true, true, true, true, false, true, true, true, true, false, false, false, false, false, false] rfl rfl (any_of HT_.out (by kernel_rfl)) (fun _ _ _ h => h) (Or.inl ⟨by rfl, ?_⟩) ?_ ?_
              rotate_left
              · intro w'
                go_simp
                with_reducible rfl
              rotate_left
              · simp only [Act.put, List.setIfInBounds_toArray, List.set_cons_zero, List.set_cons_succ, i64_w, i32_w]
                rfl
              refine pure_ (i := 14) (N := some 52) (v := ?_) (a' := ?_) #[true, true, true, true, true, true, true, true, true, false, true, true, true, true, true, false, false, false, false, false] rfl rfl (any_of HT_.out (by kernel_rfl)) (fun _ _ _ h => h) (Or.inl ⟨by rfl, ?_⟩) ?_ ?_
              rotate_left
              · intro w'
                go_simp
                with_reducible rfl
              rotate_left
              · simp only [Act.put, List.setIfInBounds_toArray, List.set_cons_zero, List.set_cons_succ, i64_w, i32_w]
                rfl
              refine pure_ (i := 15) (N := some 53) (v := ?_) (a' := ?_) #[true, true, true, true, true, true, true, true, true, false, true, true, true, true, true, true, false, false, false, false] rfl rfl (any_of HT_.out (by kernel_rfl)) (fun _ _ _ h => h) (Or.inl ⟨by rfl, ?_⟩) ?_ ?_
              rotate_left
              · intro w'
                go_simp
                with_reducible rfl
              rotate_left
              · simp only [Act.put, List.setIfInBounds_toArray, List.set_cons_zero, List.set_cons_succ, i64_w, i32_w]
                rfl
              refine one_ (i := 9) (N := some 47) #[true, true, true, true, true, true, true, true, true, true, true, true, true, true, true, true, false, false, false, false] rfl rfl (one_of HT_.out (by kernel_rfl)) (by decide) (fun K hK => ?_)
              refine goes_ Try.func24 (by kernel_rfl) rfl #[.slice Ao32 t257.length co32, .slice Ao33 t264.length co33] (by rfl) rfl rfl (by (try simp only [List.map_toArray, List.map_cons, List.map_nil]); first | done | rfl | (simp only [List.length_drop, List.length_take]; rfl)) ?_
              with_reducible refine (symbolonref01_Sub.calls k _ _ t257 _ _ t264 t270 _ ?side1 ?side2 ?side3 ?side4 A17.out).mono ?_
              (case side1 => repeat (first | exact (Kd.R_reads' HO261.out).2.2 | (with_reducible refine Kd.C_alloc ?_ _) | (with_reducible refine Kd.C_drewN ?_ _) | (with_reducible refine Kd.C_drew ?_)))
              (case side2 => exact (Kd.R_reads' HO261.out).2.1)
              (case side3 => repeat (first | exact (Kd.R_reads' HO268.out).2.2 | (with_reducible refine Kd.C_alloc ?_ _) | (with_reducible refine Kd.C_drewN ?_ _) | (with_reducible refine Kd.C_drew ?_)))
              (case side4 => exact (Kd.R_reads' HO268.out).2.1)
              rintro e w34 ⟨v271, rfl, ho0, hb⟩
              refine ⟨_, rfl, ?_⟩
              have n0_ := Aside0.mk (Kd.R_elder' (by (with_reducible repeat (first | apply Kd.R_alloc | apply Kd.R_drewN | apply Kd.R_drew)); exact HO259.out) (Kd.R_base ho0) hb)
              have n1_ := Aside0.mk (Kd.R_elder' (by (with_reducible repeat (first | apply Kd.R_alloc | apply Kd.R_drewN | apply Kd.R_drew)); exact HO261.out) (Kd.R_base ho0) hb)
              have n2_ := Aside0.mk (Kd.R_elder' (by (with_reducible repeat (first | apply Kd.R_alloc | apply Kd.R_drewN | apply Kd.R_drew)); exact HO266.out) (Kd.R_base ho0) hb)
              have n3_ := Aside0.mk (Kd.R_elder' (by (with_reducible repeat (first | apply Kd.R_alloc | apply Kd.R_drewN | apply Kd.R_drew)); exact HO268.out) (Kd.R_base ho0) hb)
              have n4_ := Aside0.mk (Kd.R_lower (Kd.R_new' (Kd.R_new' (Kd.R_new' (Kd.R_new' ho0 (Kd.R_lt (by (with_reducible repeat (first | apply Kd.R_alloc | apply Kd.R_drewN | apply Kd.R_drew)); exact HO259.out))) (Kd.R_lt (by (with_reducible repeat (first | apply Kd.R_alloc | apply Kd.R_drewN | apply Kd.R_drew)); exact HO261.out))) (Kd.R_lt (by (with_reducible repeat (first | apply Kd.R_alloc | apply Kd.R_drewN | apply Kd.R_drew)); exact HO266.out))) (Kd.R_lt (by (with_reducible repeat (first | apply Kd.R_alloc | apply Kd.R_drewN | apply Kd.R_drew)); exact HO268.out))) (below_size (by repeat (first | (with_reducible first | exact HB.out | apply below_alloc | apply pw_below_drewN | apply below_drew1) | exact HB.out))))
              have n5_ := Aside0.mk (below_step (by repeat (first | (with_reducible first | exact HB.out | apply below_alloc | apply pw_below_drewN | apply below_drew1) | exact HB.out)) hb)
              clear HO259
              clear HO261
              clear HO266
              clear HO268
              clear HB
              have HO259 := n0_
              have HO261 := n1_
              have HO266 := n2_
              have HO268 := n3_
              have HO272 := n4_
              have HB := n5_
              clear n0_ n1_ n2_ n3_ n4_ n5_
              (try clear hb)
              (try clear hb2)
              (try clear hk)
              (try clear hi)
              (try clear ho0)
              obtain ⟨i035, hi035, _, hsz35, _⟩ := info_parts info23
              obtain ⟨hcut35, hA35, hC35⟩ := print_take_of (P := Try.prog) (Value.int .u64) 0 22 23 .i64 Try.underlying22 hi035 hsz35 A1 c1 l1 (ji5) (of_decide_eq_true (by first | (with_reducible assumption) | assumption)) (of_decide_eq_true (by first | (with_reducible assumption) | assumption)) HC1.out
              (try rw [← Nyc1.out] at hcut35)
              (try rw [← Nyc1.out] at hA35)
              (try rw [← Nyc1.out] at hC35)
              (try rw [← Nyc2.out] at hcut35)
              (try rw [← Nyc2.out] at hA35)
              (try rw [← Nyc2.out] at hC35)
              have HR273 := Aside0.mk (Kd.C_of_reads (h1 := fun _ => rfl) (hA35 _ (Kd.reads_of_C HR1.out)))
              have HC273 := Aside0.mk hC35
              clear hA35 hC35 hi035 hsz35
              obtain ⟨i036, hi036, _, hsz36, _⟩ := info_parts info23
              obtain ⟨hcut36, hA36, hC36⟩ := print_take_of (P := Try.prog) (Value.int .u64) 0 22 23 .i64 Try.underlying22 hi036 hsz36 A2 c2 l2 (ji5) (of_decide_eq_true (by first | (with_reducible assumption) | assumption)) (of_decide_eq_true (by first | (with_reducible assumption) | assumption)) HC2.out
              (try rw [← Nyc1.out] at hcut36)
              (try rw [← Nyc1.out] at hA36)
              (try rw [← Nyc1.out] at hC36)
              (try rw [← Nyc2.out] at hcut36)
              (try rw [← Nyc2.out] at hA36)
              (try rw [← Nyc2.out] at hC36)
              have HR274 := Aside0.mk (Kd.C_of_reads (h1 := fun _ => rfl) (hA36 _ (Kd.reads_of_C HR2.out)))
              have HC274 := Aside0.mk hC36
              clear hA36 hC36 hi036 hsz36
              refine hK.out _ _ trivial (fun hHeld => ?_)
              clear hK K
              refine norm_ (a' := ?_) ?_ ?_
              rotate_left
              · show Act.put _ (some 47) _ = _
                simp only [Act.put, List.setIfInBounds_toArray, List.set_cons_zero, List.set_cons_succ, i64_w, i32_w]
                rfl
              refine one_ (i := 16) (N := some 54) #[true, true, true, true, true, true, true, true, true, true, true, true, true, true, true, true, true, false, false, false] rfl rfl (one_of HT_.out (by kernel_rfl)) (by decide) (fun K hK => ?_)
              refine goes_ Try.func24 (by kernel_rfl) rfl #[.slice A1 yc1.length c1, .slice A2 yc2.length c2] (by rfl) rfl rfl (by (try simp only [List.map_toArray, List.map_cons, List.map_nil]); first | done | (simp only [hji5]; rfl) | rfl | (simp only [List.length_drop, List.length_take]; rfl)) ?_
              with_reducible refine (symbolonref01_Sub.calls k _ _ yc1 _ _ yc2 t275 _ ?side1 ?side2 ?side3 ?side4 A22.out).mono ?_
              (case side1 => repeat (first | exact (Kd.C_below HR273.out HB.out) | (with_reducible refine Kd.C_alloc ?_ _) | (with_reducible refine Kd.C_drewN ?_ _) | (with_reducible refine Kd.C_drew ?_)))
              (case side2 => exact HC273.out)
              (case side3 => repeat (first | exact (Kd.C_below HR274.out HB.out) | (with_reducible refine Kd.C_alloc ?_ _) | (with_reducible refine Kd.C_drewN ?_ _) | (with_reducible refine Kd.C_drew ?_)))
              (case side4 => exact HC274.out)
              rintro e w37 ⟨v276, rfl, ho0, hb⟩
              refine ⟨_, rfl, ?_⟩
              have n0_ := Aside0.mk (Kd.R_elder' (by (with_reducible repeat (first | apply Kd.R_alloc | apply Kd.R_drewN | apply Kd.R_drew)); exact HO259.out) (Kd.R_base ho0) hb)
              have n1_ := Aside0.mk (Kd.R_elder' (by (with_reducible repeat (first | apply Kd.R_alloc | apply Kd.R_drewN | apply Kd.R_drew)); exact HO261.out) (Kd.R_base ho0) hb)
              have n2_ := Aside0.mk (Kd.R_elder' (by (with_reducible repeat (first | apply Kd.R_alloc | apply Kd.R_drewN | apply Kd.R_drew)); exact HO266.out) (Kd.R_base ho0) hb)
              have n3_ := Aside0.mk (Kd.R_elder' (by (with_reducible repeat (first | apply Kd.R_alloc | apply Kd.R_drewN | apply Kd.R_drew)); exact HO268.out) (Kd.R_base ho0) hb)
              have n4_ := Aside0.mk (Kd.R_elder' (by (with_reducible repeat (first | apply Kd.R_alloc | apply Kd.R_drewN | apply Kd.R_drew)); exact HO272.out) (Kd.R_base ho0) hb)
              have n5_ := Aside0.mk (Kd.R_lower (Kd.R_new' (Kd.R_new' (Kd.R_new' (Kd.R_new' (Kd.R_new' ho0 (Kd.R_lt (by (with_reducible repeat (first | apply Kd.R_alloc | apply Kd.R_drewN | apply Kd.R_drew)); exact HO259.out))) (Kd.R_lt (by (with_reducible repeat (first | apply Kd.R_alloc | apply Kd.R_drewN | apply Kd.R_drew)); exact HO261.out))) (Kd.R_lt (by (with_reducible repeat (first | apply Kd.R_alloc | apply Kd.R_drewN | apply Kd.R_drew)); exact HO266.out))) (Kd.R_lt (by (with_reducible repeat (first | apply Kd.R_alloc | apply Kd.R_drewN | apply Kd.R_drew)); exact HO268.out))) (Kd.R_lt (by (with_reducible repeat (first | apply Kd.R_alloc | apply Kd.R_drewN | apply Kd.R_drew)); exact HO272.out))) (below_size (by repeat (first | (with_reducible first | exact HB.out | apply below_alloc | apply pw_below_drewN | apply below_drew1) | exact HB.out))))
              have n6_ := Aside0.mk (below_step (by repeat (first | (with_reducible first | exact HB.out | apply below_alloc | apply pw_below_drewN | apply below_drew1) | exact HB.out)) hb)
              clear HO259
              clear HO261
              clear HO266
              clear HO268
              clear HO272
              clear HB
              have HO259 := n0_
              have HO261 := n1_
              have HO266 := n2_
              have HO268 := n3_
              have HO272 := n4_
              have HO277 := n5_
              have HB := n6_
              clear n0_ n1_ n2_ n3_ n4_ n5_ n6_
              (try clear hb)
              (try clear hb2)
              (try clear hk)
              (try clear hi)
              (try clear ho0)
              obtain ⟨Ao38, co38, eo38⟩ := Kd.R_slice HO272.out
              (first | subst eo38 | (injection eo38 with f1_ f2_ f3_; have f4_ := f1_.symm; have f5_ := f3_.symm; clear f1_ f2_ f3_; subst f4_; subst f5_))
              obtain ⟨Ao39, co39, eo39⟩ := Kd.R_slice HO277.out
              (first | subst eo39 | (injection eo39 with f1_ f2_ f3_; have f4_ := f1_.symm; have f5_ := f3_.symm; clear f1_ f2_ f3_; subst f4_; subst f5_))
              refine hK.out _ _ trivial (fun hHeld => ?_)
              clear hK K
              refine norm_ (a' := ?_) ?_ ?_
              rotate_left
              · show Act.put _ (some 54) _ = _
                simp only [Act.put, List.setIfInBounds_toArray, List.set_cons_zero, List.set_cons_succ, i64_w, i32_w]
                rfl
              refine one_ (i := 17) (N := some 55) #[true, true, true, true, true, true, true, true, true, true, true, true, true, true, true, true, true, true, false, false] rfl rfl (one_of HT_.out (by kernel_rfl)) (by decide) (fun K hK => ?_)
              refine goes_ Try.func20 (by kernel_rfl) rfl #[.slice Ao38 t270.length co38, .slice Ao39 t275.length co39] (by rfl) rfl rfl (by (try simp only [List.map_toArray, List.map_cons, List.map_nil]); first | done | rfl | (simp only [List.length_drop, List.length_take]; rfl)) ?_
              with_reducible refine (symbolonref01_Same.calls k _ _ t270 _ _ t275 t278 _ ?side1 ?side2 ?side3 ?side4 A23.out).mono ?_
              (case side1 => repeat (first | exact (Kd.R_reads' HO272.out).2.2 | (with_reducible refine Kd.C_alloc ?_ _) | (with_reducible refine Kd.C_drewN ?_ _) | (with_reducible refine Kd.C_drew ?_)))
              (case side2 => exact (Kd.R_reads' HO272.out).2.1)
              (case side3 => repeat (first | exact (Kd.R_reads' HO277.out).2.2 | (with_reducible refine Kd.C_alloc ?_ _) | (with_reducible refine Kd.C_drewN ?_ _) | (with_reducible refine Kd.C_drew ?_)))
              (case side4 => exact (Kd.R_reads' HO277.out).2.1)
              rintro e w' ⟨rfl, ⟨nd, rfl⟩⟩
              refine ⟨_, rfl, ?_⟩
              refine hK.out _ _ trivial (fun hHeld => ?_)
              clear hK K
              refine norm_ (a' := ?_) ?_ ?_
              rotate_left
              · show Act.put _ (some 55) _ = _
                simp only [Act.put, List.setIfInBounds_toArray, List.set_cons_zero, List.set_cons_succ, i64_w, i32_w]
                rfl
              refine pure_ (i := 18) (N := some 56) (v := ?_) (a' := ?_) #[true, true, true, true, true, true, true, true, true, true, true, true, true, true, true, true, true, true, true, false] rfl rfl (any_of HT_.out (by kernel_rfl)) (fun _ _ _ h => h) (Or.inl ⟨by rfl, ?_⟩) ?_ ?_
              rotate_left
              · intro w'
                go_simp
                with_reducible rfl
              rotate_left
              · simp only [Act.put, List.setIfInBounds_toArray, List.set_cons_zero, List.set_cons_succ, i64_w, i32_w]
                rfl
              refine pure_ (i := 19) (N := some 6) (v := ?_) (a' := ?_) #[true, true, true, true, true, true, true, true, true, true, true, true, true, true, true, true, true, true, true, true] rfl rfl (any_of HT_.out (by kernel_rfl)) (fun _ _ _ h => h) (Or.inl ⟨by rfl, ?_⟩) ?_ ?_
              rotate_left
              · intro w'
                go_simp
                with_reducible rfl
              rotate_left
              · simp only [Act.put, List.setIfInBounds_toArray, List.set_cons_zero, List.set_cons_succ, i64_w, i32_w]
                rfl
              refine done_ (done_of HT_.out (by kernel_rfl)) ?_
              try go_wp2
              go_ret
              exact ⟨by first | rfl | (simp [errW_none, errW_some] <;> rfl) | (simp only [← hji5]; first | rfl | (simp [errW_none, errW_some] <;> rfl)) | (simp [*, errW_none, errW_some] <;> rfl), by repeat (first | (with_reducible first | exact HB.out | apply below_alloc | apply pw_below_drewN | apply below_drew1) | exact HB.out)⟩
            · replace c16 := Bool.eq_false_iff.mpr c16
              subst c16
              have H1 : (none) = some r := by rw [if_neg (show ¬ (false = true) by decide)] at H; exact H
              clear H
              have H := H1
              clear H1
              exact absurd H (by simp)
          · replace c14 := Bool.eq_false_iff.mpr c14
            subst c14
            have H1 : (none) = some r := by rw [if_neg (show ¬ (false = true) by decide)] at H; exact H
            clear H
            have H := H1
            clear H1
            exact absurd H (by simp)
        · rw [if_neg c12] at H
          exact absurd H (by simp)
      · rw [if_neg c9] at H
        exact absurd H (by simp)
    · rw [if_neg c8] at H
      exact absurd H (by simp)

/-- THE ONE PURE STATEMENT of symbolonlaw10_ShareMasks: yours. -/
def symbolonlaw10_ShareMasks.Pure : Prop := ∀ (a0 : Int) (l1 : List Int) (l2 : List Int), (Lit.int .u64 a0).wf = true → l1.length ≤ maxLen → l1.length * 8 ≤ 140737488351232 → (∀ x ∈ l1, (Lit.int .u64 x).wf = true) → l2.length ≤ maxLen → l2.length * 8 ≤ 140737488351232 → (∀ x ∈ l2, (Lit.int .u64 x).wf = true) → ∃ k, symbolonlaw10_ShareMasks.f k a0 l1 l2 = some true
theorem symbolonlaw10_ShareMasks.walk (P : symbolonlaw10_ShareMasks.Pure) (a0 : Int) (a1 : Option Addr) (len1 cap1 : Nat) (z1 : List Int) (a2 : Option Addr) (len2 cap2 : Nat) (z2 : List Int) (w : World) (w0 : (Lit.int .u64 a0).wf = true) (w1 : (a1 = none ∧ len1 = 0 ∧ cap1 = 0 ∧ z1 = []) ∨ ∃ x, a1 = some x ∧ len1 ≤ cap1 ∧ cap1 ≤ maxLen ∧ z1.length = cap1 ∧ (∀ i, i < z1.length → w.cell? (x.add i) = some (.int .u64 (z1.getD i 0))) ∧ ∀ n ∈ z1, (Lit.int .u64 n).wf = true) (y1 : len1 * 8 ≤ 140737488351232) (w2 : (a2 = none ∧ len2 = 0 ∧ cap2 = 0 ∧ z2 = []) ∨ ∃ x, a2 = some x ∧ len2 ≤ cap2 ∧ cap2 ≤ maxLen ∧ z2.length = cap2 ∧ (∀ i, i < z2.length → w.cell? (x.add i) = some (.int .u64 (z2.getD i 0))) ∧ ∀ n ∈ z2, (Lit.int .u64 n).wf = true) (y2 : len2 * 8 ≤ 140737488351232) :
    Calls Try.prog 12 #[.int .u64 a0, .slice a1 len1 cap1, .slice a2 len2 cap2] w fun e w' => e = .returned (.bool true) ∧ Below w.heap.size w w' := by
  obtain ⟨l1, rfl, hr1, hm1, hw1, hc1⟩ := ReadsInt.ofRowC w1
  obtain ⟨l2, rfl, hr2, hm2, hw2, hc2⟩ := ReadsInt.ofRowC w2
  obtain ⟨k, h⟩ := P a0 l1 l2 w0 hm1 y1 hw1 hm2 y2 hw2
  refine (symbolonlaw10_ShareMasks.calls k a0 _ _ l1 _ _ l2 true w (Kd.C_of_reads (d := (0 : Int)) (h1 := fun _ => rfl) hr1) hc1 (Kd.C_of_reads (d := (0 : Int)) (h1 := fun _ => rfl) hr2) hc2 h).mono ?_
  rintro e w' ⟨rfl, hd⟩
  exact ⟨rfl, hd⟩

end Go.Proofs.Ytifehkjcccjccaa.PSh
