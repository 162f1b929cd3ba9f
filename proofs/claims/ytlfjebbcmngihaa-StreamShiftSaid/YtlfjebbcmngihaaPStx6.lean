/- The Go functions that this seat's statements reach: each with the plain function that it computes, for every input at which that function answers. Written by a program of the session (wip/tools/hprint.py) over the kit's printer; contracts that the printer does not take are proved by hand among them. -/
import Derived.Test.YtlfjebbcmngihaaPStx0
import Derived.Test.YtlfjebbcmngihaaPStx1
import Derived.Test.YtlfjebbcmngihaaPStx2
import Derived.Test.YtlfjebbcmngihaaPStx3
import Derived.Test.YtlfjebbcmngihaaPStx4
import Derived.Test.YtlfjebbcmngihaaPStx5
namespace Go.Proofs.Ytlfjebbcmngihaa.PSt
open Go.RowKit Go.Proofs.YtlfjebbcmngihaaW.PrintWords Go.Proofs.YtlfjebbcmngihaaW.PrintLast Go.Proofs.YtlfjebbcmngihaaW.PrintMore
attribute [local go_sem] max2_int min2_int max_two min_two max_three min_three max_four min_four   -- for this text's walks alone
set_option linter.unusedVariables false
set_option linter.unusedSimpArgs false

/-! ### symbolonlaw09_StreamTells: function 8 -/
def symbolonlaw09_StreamTells.f (k : Nat) (a0 : Int) (a1 : Int) (a2 : Int) (a3 : Int) : Option (Bool) := (symbolonlaw09_head.f k).bind fun t145 => (if t145 = true then ((stream_Number.f k a0 a1).bind fun t146 => ((symbolonref09_Number.f a0 a1).bind fun t147 => (if t146 = t147 then ((stream_Back.f k a0 a2).bind fun t148 => ((symbolonref09_Back.f k a0 a2).bind fun t149 => (if t148 = t149 then ((stream_Row.f k a0 a1 a3).bind fun t150 => ((symbolonref09_Row.f k a0 a1 a3).bind fun t153 => ((symbolonref01_Same.f k t150 t153).bind fun t156 => (some t156)))) else (some false)))) else (some false)))) else (some false))
theorem symbolonlaw09_StreamTells.mono : ∀ a0 a1 a2 a3 k, LeO (symbolonlaw09_StreamTells.f k a0 a1 a2 a3) (symbolonlaw09_StreamTells.f (k + 1) a0 a1 a2 a3) := by
  intro a0 a1 a2 a3 k
  unfold symbolonlaw09_StreamTells.f
  repeat' first
      | (with_reducible exact stream_Back.mono _ _ _)
      | (with_reducible exact stream_Number.mono _ _ _)
      | (with_reducible exact stream_Row.mono _ _ _ _)
      | (with_reducible exact symbolonlaw09_head.mono _)
      | (with_reducible exact symbolonref01_Same.mono _ _ _)
      | (with_reducible exact symbolonref09_Back.mono _ _ _)
      | (with_reducible exact symbolonref09_Row.mono _ _ _ _)
      | (with_reducible exact LeO.refl _)
      | (with_reducible exact LeO.none _)
      | (with_reducible refine LeO.ite ?_ ?_)
      | (with_reducible refine LeO.bind ?_ (fun _ => ?_))
      | exact stream_Back.mono _ _ _
      | exact stream_Number.mono _ _ _
      | exact stream_Row.mono _ _ _ _
      | exact symbolonlaw09_head.mono _
      | exact symbolonref01_Same.mono _ _ _
      | exact symbolonref09_Back.mono _ _ _
      | exact symbolonref09_Row.mono _ _ _ _
      | exact LeO.none _
      | refine LeO.ite ?_ ?_
      | refine LeO.bind ?_ (fun _ => ?_)
set_option maxHeartbeats 8000000 in
set_option maxRecDepth 100000 in
theorem symbolonlaw09_StreamTells.calls (k : Nat) (a0 : Int) (a1 : Int) (a2 : Int) (a3 : Int) (r : Bool) (w : World) (h : symbolonlaw09_StreamTells.f k a0 a1 a2 a3 = some r) :
    Calls Try.prog 8 #[.int .u64 a0, .int .u64 a1, .int .u64 a2, .int .i64 a3] w fun e w' => e = .returned (.bool r) ∧ Below w.heap.size w w' := by
  have HB := Aside0.mk (Below.refl w.heap.size w)
  have H : ((symbolonlaw09_head.f k).bind fun t145 => (if t145 = true then ((stream_Number.f k a0 a1).bind fun t146 => ((symbolonref09_Number.f a0 a1).bind fun t147 => (if t146 = t147 then ((stream_Back.f k a0 a2).bind fun t148 => ((symbolonref09_Back.f k a0 a2).bind fun t149 => (if t148 = t149 then ((stream_Row.f k a0 a1 a3).bind fun t150 => ((symbolonref09_Row.f k a0 a1 a3).bind fun t153 => ((symbolonref01_Same.f k t150 t153).bind fun t156 => (some t156)))) else (some false)))) else (some false)))) else (some false))) = some r := h
  clear h
  replace H := Option.bind_eq_some_iff.mp H
  obtain ⟨t145, A50, H⟩ := H
  replace H : (if t145 = true then ((stream_Number.f k a0 a1).bind fun t146 => ((symbolonref09_Number.f a0 a1).bind fun t147 => (if t146 = t147 then ((stream_Back.f k a0 a2).bind fun t148 => ((symbolonref09_Back.f k a0 a2).bind fun t149 => (if t148 = t149 then ((stream_Row.f k a0 a1 a3).bind fun t150 => ((symbolonref09_Row.f k a0 a1 a3).bind fun t153 => ((symbolonref01_Same.f k t150 t153).bind fun t156 => (some t156)))) else (some false)))) else (some false)))) else (some false)) = some r := H
  have A5 := Aside0.mk A50
  clear A50
  by_cases c6 : t145 = true
  · subst c6
    have H1 : ((stream_Number.f k a0 a1).bind fun t146 => ((symbolonref09_Number.f a0 a1).bind fun t147 => (if t146 = t147 then ((stream_Back.f k a0 a2).bind fun t148 => ((symbolonref09_Back.f k a0 a2).bind fun t149 => (if t148 = t149 then ((stream_Row.f k a0 a1 a3).bind fun t150 => ((symbolonref09_Row.f k a0 a1 a3).bind fun t153 => ((symbolonref01_Same.f k t150 t153).bind fun t156 => (some t156)))) else (some false)))) else (some false)))) = some r := by rw [if_pos rfl] at H; exact H
    clear H
    have H := H1
    clear H1
    replace H := Option.bind_eq_some_iff.mp H
    obtain ⟨t146, A70, H⟩ := H
    replace H : ((symbolonref09_Number.f a0 a1).bind fun t147 => (if t146 = t147 then ((stream_Back.f k a0 a2).bind fun t148 => ((symbolonref09_Back.f k a0 a2).bind fun t149 => (if t148 = t149 then ((stream_Row.f k a0 a1 a3).bind fun t150 => ((symbolonref09_Row.f k a0 a1 a3).bind fun t153 => ((symbolonref01_Same.f k t150 t153).bind fun t156 => (some t156)))) else (some false)))) else (some false))) = some r := H
    have A7 := Aside0.mk A70
    clear A70
    replace H := Option.bind_eq_some_iff.mp H
    obtain ⟨t147, A80, H⟩ := H
    replace H : (if t146 = t147 then ((stream_Back.f k a0 a2).bind fun t148 => ((symbolonref09_Back.f k a0 a2).bind fun t149 => (if t148 = t149 then ((stream_Row.f k a0 a1 a3).bind fun t150 => ((symbolonref09_Row.f k a0 a1 a3).bind fun t153 => ((symbolonref01_Same.f k t150 t153).bind fun t156 => (some t156)))) else (some false)))) else (some false)) = some r := H
    have A8 := Aside0.mk A80
    clear A80
    by_cases c9 : t146 = t147
    · rw [if_pos c9] at H
      have c9b0 : (t146 == t147) = true := beq_iff_eq.mpr c9
      have c9b1 : (t146 != t147) = false := bne_eq_false_iff_eq.mpr c9
      clear c9
      replace H := Option.bind_eq_some_iff.mp H
      obtain ⟨t148, A100, H⟩ := H
      replace H : ((symbolonref09_Back.f k a0 a2).bind fun t149 => (if t148 = t149 then ((stream_Row.f k a0 a1 a3).bind fun t150 => ((symbolonref09_Row.f k a0 a1 a3).bind fun t153 => ((symbolonref01_Same.f k t150 t153).bind fun t156 => (some t156)))) else (some false))) = some r := H
      have A10 := Aside0.mk A100
      clear A100
      replace H := Option.bind_eq_some_iff.mp H
      obtain ⟨t149, A110, H⟩ := H
      replace H : (if t148 = t149 then ((stream_Row.f k a0 a1 a3).bind fun t150 => ((symbolonref09_Row.f k a0 a1 a3).bind fun t153 => ((symbolonref01_Same.f k t150 t153).bind fun t156 => (some t156)))) else (some false)) = some r := H
      have A11 := Aside0.mk A110
      clear A110
      by_cases c12 : t148 = t149
      · rw [if_pos c12] at H
        have c12b0 : (t148 == t149) = true := beq_iff_eq.mpr c12
        have c12b1 : (t148 != t149) = false := bne_eq_false_iff_eq.mpr c12
        clear c12
        replace H := Option.bind_eq_some_iff.mp H
        obtain ⟨t150, A130, H⟩ := H
        replace H : ((symbolonref09_Row.f k a0 a1 a3).bind fun t153 => ((symbolonref01_Same.f k t150 t153).bind fun t156 => (some t156))) = some r := H
        have A13 := Aside0.mk A130
        clear A130
        replace H := Option.bind_eq_some_iff.mp H
        obtain ⟨t153, A140, H⟩ := H
        replace H : ((symbolonref01_Same.f k t150 t153).bind fun t156 => (some t156)) = some r := H
        have A14 := Aside0.mk A140
        clear A140
        replace H := Option.bind_eq_some_iff.mp H
        obtain ⟨t156, A150, H⟩ := H
        replace H : (some t156) = some r := H
        have A15 := Aside0.mk A150
        clear A150
        obtain rfl := Option.some.inj H
        go_enter Try.func8, Try.ntmps8
        go_wp2_with (first | ((with_reducible refine gate_callee (f := 20) rfl ?_); refine goesL_ (some 10) rfl rfl Try.func20 (by kernel_rfl) rfl #[] rfl (by (try simp only [List.map_toArray, List.map_cons, List.map_nil]); first | done | rfl | (simp only [List.length_drop, List.length_take]; rfl)) ?_; (with_reducible refine (symbolonlaw09_head.calls k  true _ A5.out).mono ?_); rintro e w16 ⟨rfl, hb⟩; refine ⟨_, rfl, ?_⟩; have n0_ := Aside0.mk (below_step (by repeat (first | (with_reducible first | exact HB.out | apply below_alloc | apply pw_below_drewN | apply below_drew1) | exact HB.out)) hb); clear HB; have HB := n0_; clear n0_; (try clear hb); (try clear hb2); (try clear hk); (try clear hi)) | (go_at_call 21; (with_reducible refine (stream_Number.calls k a0 a1 t146 _ A7.out).mono ?_); rintro e w' ⟨rfl, ⟨nd, rfl⟩⟩) | (go_at_call 22; (with_reducible refine (symbolonref09_Number.calls a0 a1 t147 _ A8.out).mono ?_); rintro e w' ⟨rfl, ⟨nd, rfl⟩⟩) | (go_at_call 23; (with_reducible refine (stream_Back.calls k a0 a2 t148 _ A10.out).mono ?_); rintro e w' ⟨rfl, ⟨nd, rfl⟩⟩) | (go_at_call 19; (with_reducible refine (symbolonref09_Back.calls k a0 a2 t149 _ A11.out).mono ?_); rintro e w' ⟨rfl, ⟨nd, rfl⟩⟩) | (go_at_call 25; (with_reducible refine (stream_Row.calls k a0 a1 a3 t150 _ A13.out).mono ?_); rintro e w17 ⟨v151, rfl, ho0, hb⟩; have n0_ := Aside0.mk (Kd.R_lower ho0 (below_size (by repeat (first | (with_reducible first | exact HB.out | apply below_alloc | apply pw_below_drewN | apply below_drew1) | exact HB.out)))); have n1_ := Aside0.mk (below_step (by repeat (first | (with_reducible first | exact HB.out | apply below_alloc | apply pw_below_drewN | apply below_drew1) | exact HB.out)) hb); clear HB; have HO152 := n0_; have HB := n1_; clear n0_ n1_; (try clear hb); (try clear hb2); (try clear hk); (try clear hi); (try clear ho0)) | (go_at_call 26; (with_reducible refine (symbolonref09_Row.calls k a0 a1 a3 t153 _ A14.out).mono ?_); rintro e w18 ⟨v154, rfl, ho0, hb⟩; have n0_ := Aside0.mk (Kd.R_elder' (by (with_reducible repeat (first | apply Kd.R_alloc | apply Kd.R_drewN | apply Kd.R_drew)); exact HO152.out) (Kd.R_base ho0) hb); have n1_ := Aside0.mk (Kd.R_lower (Kd.R_new' ho0 (Kd.R_lt (by (with_reducible repeat (first | apply Kd.R_alloc | apply Kd.R_drewN | apply Kd.R_drew)); exact HO152.out))) (below_size (by repeat (first | (with_reducible first | exact HB.out | apply below_alloc | apply pw_below_drewN | apply below_drew1) | exact HB.out)))); have n2_ := Aside0.mk (below_step (by repeat (first | (with_reducible first | exact HB.out | apply below_alloc | apply pw_below_drewN | apply below_drew1) | exact HB.out)) hb); clear HO152; clear HB; have HO152 := n0_; have HO155 := n1_; have HB := n2_; clear n0_ n1_ n2_; (try clear hb); (try clear hb2); (try clear hk); (try clear hi); (try clear ho0); obtain ⟨Ao19, co19, eo19⟩ := Kd.R_slice HO152.out; subst eo19; obtain ⟨Ao20, co20, eo20⟩ := Kd.R_slice HO155.out; subst eo20) | (go_at_call 24; (with_reducible refine (symbolonref01_Same.calls k _ _ t150 _ _ t153 t156 _ ?side1 ?side2 ?side3 ?side4 A15.out).mono ?_); (case side1 => repeat (first | exact (Kd.R_reads' HO152.out).2.2 | (with_reducible refine Kd.C_alloc ?_ _) | (with_reducible refine Kd.C_drewN ?_ _) | (with_reducible refine Kd.C_drew ?_))); (case side2 => exact (Kd.R_reads' HO152.out).2.1); (case side3 => repeat (first | exact (Kd.R_reads' HO155.out).2.2 | (with_reducible refine Kd.C_alloc ?_ _) | (with_reducible refine Kd.C_drewN ?_ _) | (with_reducible refine Kd.C_drew ?_))); (case side4 => exact (Kd.R_reads' HO155.out).2.1); rintro e w' ⟨rfl, ⟨nd, rfl⟩⟩))
        go_ret
        exact ⟨by first | rfl | (simp [errW_none, errW_some] <;> rfl) | (simp [*, errW_none, errW_some] <;> rfl), by repeat (first | (with_reducible first | exact HB.out | apply below_alloc | apply pw_below_drewN | apply below_drew1) | exact HB.out)⟩
      · rw [if_neg c12] at H
        have c12b0 : (t148 == t149) = false := beq_eq_false_iff_ne.mpr c12
        have c12b1 : (t148 != t149) = true := bne_iff_ne.mpr c12
        obtain rfl := Option.some.inj H
        go_enter Try.func8, Try.ntmps8
        go_wp2_with (first | ((with_reducible refine gate_callee (f := 20) rfl ?_); refine goesL_ (some 10) rfl rfl Try.func20 (by kernel_rfl) rfl #[] rfl (by (try simp only [List.map_toArray, List.map_cons, List.map_nil]); first | done | rfl | (simp only [List.length_drop, List.length_take]; rfl)) ?_; (with_reducible refine (symbolonlaw09_head.calls k  true _ A5.out).mono ?_); rintro e w21 ⟨rfl, hb⟩; refine ⟨_, rfl, ?_⟩; have n0_ := Aside0.mk (below_step (by repeat (first | (with_reducible first | exact HB.out | apply below_alloc | apply pw_below_drewN | apply below_drew1) | exact HB.out)) hb); clear HB; have HB := n0_; clear n0_; (try clear hb); (try clear hb2); (try clear hk); (try clear hi)) | (go_at_call 21; (with_reducible refine (stream_Number.calls k a0 a1 t146 _ A7.out).mono ?_); rintro e w' ⟨rfl, ⟨nd, rfl⟩⟩) | (go_at_call 22; (with_reducible refine (symbolonref09_Number.calls a0 a1 t147 _ A8.out).mono ?_); rintro e w' ⟨rfl, ⟨nd, rfl⟩⟩) | (go_at_call 23; (with_reducible refine (stream_Back.calls k a0 a2 t148 _ A10.out).mono ?_); rintro e w' ⟨rfl, ⟨nd, rfl⟩⟩) | (go_at_call 19; (with_reducible refine (symbolonref09_Back.calls k a0 a2 t149 _ A11.out).mono ?_); rintro e w' ⟨rfl, ⟨nd, rfl⟩⟩))
        go_ret
        exact ⟨by first | rfl | (simp [errW_none, errW_some] <;> rfl) | (simp [*, errW_none, errW_some] <;> rfl), by repeat (first | (with_reducible first | exact HB.out | apply below_alloc | apply pw_below_drewN | apply below_drew1) | exact HB.out)⟩
    · rw [if_neg c9] at H
      have c9b0 : (t146 == t147) = false := beq_eq_false_iff_ne.mpr c9
      have c9b1 : (t146 != t147) = true := bne_iff_ne.mpr c9
      obtain rfl := Option.some.inj H
      go_enter Try.func8, Try.ntmps8
      go_wp2_with (first | ((with_reducible refine gate_callee (f := 20) rfl ?_); refine goesL_ (some 10) rfl rfl Try.func20 (by kernel_rfl) rfl #[] rfl (by (try simp only [List.map_toArray, List.map_cons, List.map_nil]); first | done | rfl | (simp only [List.length_drop, List.length_take]; rfl)) ?_; (with_reducible refine (symbolonlaw09_head.calls k  true _ A5.out).mono ?_); rintro e w22 ⟨rfl, hb⟩; refine ⟨_, rfl, ?_⟩; have n0_ := Aside0.mk (below_step (by repeat (first | (with_reducible first | exact HB.out | apply below_alloc | apply pw_below_drewN | apply below_drew1) | exact HB.out)) hb); clear HB; have HB := n0_; clear n0_; (try clear hb); (try clear hb2); (try clear hk); (try clear hi)) | (go_at_call 21; (with_reducible refine (stream_Number.calls k a0 a1 t146 _ A7.out).mono ?_); rintro e w' ⟨rfl, ⟨nd, rfl⟩⟩) | (go_at_call 22; (with_reducible refine (symbolonref09_Number.calls a0 a1 t147 _ A8.out).mono ?_); rintro e w' ⟨rfl, ⟨nd, rfl⟩⟩))
      go_ret
      exact ⟨by first | rfl | (simp [errW_none, errW_some] <;> rfl) | (simp [*, errW_none, errW_some] <;> rfl), by repeat (first | (with_reducible first | exact HB.out | apply below_alloc | apply pw_below_drewN | apply below_drew1) | exact HB.out)⟩
  · replace c6 := Bool.eq_false_iff.mpr c6
    subst c6
    have H1 : (some false) = some r := by rw [if_neg (show ¬ (false = true) by decide)] at H; exact H
    clear H
    have H := H1
    clear H1
    obtain rfl := Option.some.inj H
    go_enter Try.func8, Try.ntmps8
    go_wp2_with (first | ((with_reducible refine gate_callee (f := 20) rfl ?_); refine goesL_ (some 10) rfl rfl Try.func20 (by kernel_rfl) rfl #[] rfl (by (try simp only [List.map_toArray, List.map_cons, List.map_nil]); first | done | rfl | (simp only [List.length_drop, List.length_take]; rfl)) ?_; (with_reducible refine (symbolonlaw09_head.calls k  false _ A5.out).mono ?_); rintro e w23 ⟨rfl, hb⟩; refine ⟨_, rfl, ?_⟩; have n0_ := Aside0.mk (below_step (by repeat (first | (with_reducible first | exact HB.out | apply below_alloc | apply pw_below_drewN | apply below_drew1) | exact HB.out)) hb); clear HB; have HB := n0_; clear n0_; (try clear hb); (try clear hb2); (try clear hk); (try clear hi)))
    go_ret
    exact ⟨by first | rfl | (simp [errW_none, errW_some] <;> rfl) | (simp [*, errW_none, errW_some] <;> rfl), by repeat (first | (with_reducible first | exact HB.out | apply below_alloc | apply pw_below_drewN | apply below_drew1) | exact HB.out)⟩

/-- THE ONE PURE STATEMENT of symbolonlaw09_StreamTells: yours. -/
def symbolonlaw09_StreamTells.Pure : Prop := ∀ (a0 : Int) (a1 : Int) (a2 : Int) (a3 : Int), (Lit.int .u64 a0).wf = true → (Lit.int .u64 a1).wf = true → (Lit.int .u64 a2).wf = true → (Lit.int .i64 a3).wf = true → ∃ k, symbolonlaw09_StreamTells.f k a0 a1 a2 a3 = some true
theorem symbolonlaw09_StreamTells.walk (P : symbolonlaw09_StreamTells.Pure) (a0 : Int) (a1 : Int) (a2 : Int) (a3 : Int) (w : World) (w0 : (Lit.int .u64 a0).wf = true) (w1 : (Lit.int .u64 a1).wf = true) (w2 : (Lit.int .u64 a2).wf = true) (w3 : (Lit.int .i64 a3).wf = true) :
    Calls Try.prog 8 #[.int .u64 a0, .int .u64 a1, .int .u64 a2, .int .i64 a3] w fun e w' => e = .returned (.bool true) ∧ Below w.heap.size w w' := by
  obtain ⟨k, h⟩ := P a0 a1 a2 a3 w0 w1 w2 w3
  refine (symbolonlaw09_StreamTells.calls k a0 a1 a2 a3 true w h).mono ?_
  rintro e w' ⟨rfl, hd⟩
  exact ⟨rfl, hd⟩

/-! ### symbolonlaw09_StreamBack: function 9 -/
def symbolonlaw09_StreamBack.f (k : Nat) (a0 : Int) (a1 : Int) (a2 : Int) : Option (Bool) := (symbolonlaw09_head.f k).bind fun t157 => (if t157 = true then ((stream_Number.f k a0 a1).bind fun t158 => ((stream_Back.f k a0 t158).bind fun t159 => (if t159 = a1 then ((stream_Back.f k a0 a2).bind fun t160 => ((stream_Number.f k a0 t160).bind fun t161 => (some (t161 == a2)))) else (some false)))) else (some false))
theorem symbolonlaw09_StreamBack.mono : ∀ a0 a1 a2 k, LeO (symbolonlaw09_StreamBack.f k a0 a1 a2) (symbolonlaw09_StreamBack.f (k + 1) a0 a1 a2) := by
  intro a0 a1 a2 k
  unfold symbolonlaw09_StreamBack.f
  repeat' first
      | (with_reducible exact stream_Back.mono _ _ _)
      | (with_reducible exact stream_Number.mono _ _ _)
      | (with_reducible exact symbolonlaw09_head.mono _)
      | (with_reducible exact LeO.refl _)
      | (with_reducible exact LeO.none _)
      | (with_reducible refine LeO.ite ?_ ?_)
      | (with_reducible refine LeO.bind ?_ (fun _ => ?_))
      | exact stream_Back.mono _ _ _
      | exact stream_Number.mono _ _ _
      | exact symbolonlaw09_head.mono _
      | exact LeO.none _
      | refine LeO.ite ?_ ?_
      | refine LeO.bind ?_ (fun _ => ?_)
set_option maxHeartbeats 8000000 in
set_option maxRecDepth 100000 in
theorem symbolonlaw09_StreamBack.calls (k : Nat) (a0 : Int) (a1 : Int) (a2 : Int) (r : Bool) (w : World) (h : symbolonlaw09_StreamBack.f k a0 a1 a2 = some r) :
    Calls Try.prog 9 #[.int .u64 a0, .int .u64 a1, .int .u64 a2] w fun e w' => e = .returned (.bool r) ∧ Below w.heap.size w w' := by
  have HB := Aside0.mk (Below.refl w.heap.size w)
  have H : ((symbolonlaw09_head.f k).bind fun t157 => (if t157 = true then ((stream_Number.f k a0 a1).bind fun t158 => ((stream_Back.f k a0 t158).bind fun t159 => (if t159 = a1 then ((stream_Back.f k a0 a2).bind fun t160 => ((stream_Number.f k a0 t160).bind fun t161 => (some (t161 == a2)))) else (some false)))) else (some false))) = some r := h
  clear h
  replace H := Option.bind_eq_some_iff.mp H
  obtain ⟨t157, A40, H⟩ := H
  replace H : (if t157 = true then ((stream_Number.f k a0 a1).bind fun t158 => ((stream_Back.f k a0 t158).bind fun t159 => (if t159 = a1 then ((stream_Back.f k a0 a2).bind fun t160 => ((stream_Number.f k a0 t160).bind fun t161 => (some (t161 == a2)))) else (some false)))) else (some false)) = some r := H
  have A4 := Aside0.mk A40
  clear A40
  by_cases c5 : t157 = true
  · subst c5
    have H1 : ((stream_Number.f k a0 a1).bind fun t158 => ((stream_Back.f k a0 t158).bind fun t159 => (if t159 = a1 then ((stream_Back.f k a0 a2).bind fun t160 => ((stream_Number.f k a0 t160).bind fun t161 => (some (t161 == a2)))) else (some false)))) = some r := by rw [if_pos rfl] at H; exact H
    clear H
    have H := H1
    clear H1
    replace H := Option.bind_eq_some_iff.mp H
    obtain ⟨t158, A60, H⟩ := H
    replace H : ((stream_Back.f k a0 t158).bind fun t159 => (if t159 = a1 then ((stream_Back.f k a0 a2).bind fun t160 => ((stream_Number.f k a0 t160).bind fun t161 => (some (t161 == a2)))) else (some false))) = some r := H
    have A6 := Aside0.mk A60
    clear A60
    replace H := Option.bind_eq_some_iff.mp H
    obtain ⟨t159, A70, H⟩ := H
    replace H : (if t159 = a1 then ((stream_Back.f k a0 a2).bind fun t160 => ((stream_Number.f k a0 t160).bind fun t161 => (some (t161 == a2)))) else (some false)) = some r := H
    have A7 := Aside0.mk A70
    clear A70
    by_cases c8 : t159 = a1
    · rw [if_pos c8] at H
      have c8b0 : (t159 == a1) = true := beq_iff_eq.mpr c8
      have c8b1 : (t159 != a1) = false := bne_eq_false_iff_eq.mpr c8
      clear c8
      replace H := Option.bind_eq_some_iff.mp H
      obtain ⟨t160, A90, H⟩ := H
      replace H : ((stream_Number.f k a0 t160).bind fun t161 => (some (t161 == a2))) = some r := H
      have A9 := Aside0.mk A90
      clear A90
      replace H := Option.bind_eq_some_iff.mp H
      obtain ⟨t161, A100, H⟩ := H
      replace H : (some (t161 == a2)) = some r := H
      have A10 := Aside0.mk A100
      clear A100
      obtain rfl := Option.some.inj H
      go_enter Try.func9, Try.ntmps9
      go_wp2_with (first | ((with_reducible refine gate_callee (f := 20) rfl ?_); refine goesL_ (some 8) rfl rfl Try.func20 (by kernel_rfl) rfl #[] rfl (by (try simp only [List.map_toArray, List.map_cons, List.map_nil]); first | done | rfl | (simp only [List.length_drop, List.length_take]; rfl)) ?_; (with_reducible refine (symbolonlaw09_head.calls k  true _ A4.out).mono ?_); rintro e w11 ⟨rfl, hb⟩; refine ⟨_, rfl, ?_⟩; have n0_ := Aside0.mk (below_step (by repeat (first | (with_reducible first | exact HB.out | apply below_alloc | apply pw_below_drewN | apply below_drew1) | exact HB.out)) hb); clear HB; have HB := n0_; clear n0_; (try clear hb); (try clear hb2); (try clear hk); (try clear hi)) | (go_at_call 21; (with_reducible refine (stream_Number.calls k a0 a1 t158 _ A6.out).mono ?_); rintro e w' ⟨rfl, ⟨nd, rfl⟩⟩) | (go_at_call 23; (with_reducible refine (stream_Back.calls k a0 t158 t159 _ A7.out).mono ?_); rintro e w' ⟨rfl, ⟨nd, rfl⟩⟩) | (go_at_call 23; (with_reducible refine (stream_Back.calls k a0 a2 t160 _ A9.out).mono ?_); rintro e w' ⟨rfl, ⟨nd, rfl⟩⟩) | (go_at_call 21; (with_reducible refine (stream_Number.calls k a0 t160 t161 _ A10.out).mono ?_); rintro e w' ⟨rfl, ⟨nd, rfl⟩⟩))
      go_ret
      exact ⟨by first | rfl | (simp [errW_none, errW_some] <;> rfl) | (simp [*, errW_none, errW_some] <;> rfl), by repeat (first | (with_reducible first | exact HB.out | apply below_alloc | apply pw_below_drewN | apply below_drew1) | exact HB.out)⟩
    · rw [if_neg c8] at H
      have c8b0 : (t159 == a1) = false := beq_eq_false_iff_ne.mpr c8
      have c8b1 : (t159 != a1) = true := bne_iff_ne.mpr c8
      obtain rfl := Option.some.inj H
      go_enter Try.func9, Try.ntmps9
      go_wp2_with (first | ((with_reducible refine gate_callee (f := 20) rfl ?_); refine goesL_ (some 8) rfl rfl Try.func20 (by kernel_rfl) rfl #[] rfl (by (try simp only [List.map_toArray, List.map_cons, List.map_nil]); first | done | rfl | (simp only [List.length_drop, List.length_take]; rfl)) ?_; (with_reducible refine (symbolonlaw09_head.calls k  true _ A4.out).mono ?_); rintro e w12 ⟨rfl, hb⟩; refine ⟨_, rfl, ?_⟩; have n0_ := Aside0.mk (below_step (by repeat (first | (with_reducible first | exact HB.out | apply below_alloc | apply pw_below_drewN | apply below_drew1) | exact HB.out)) hb); clear HB; have HB := n0_; clear n0_; (try clear hb); (try clear hb2); (try clear hk); (try clear hi)) | (go_at_call 21; (with_reducible refine (stream_Number.calls k a0 a1 t158 _ A6.out).mono ?_); rintro e w' ⟨rfl, ⟨nd, rfl⟩⟩) | (go_at_call 23; (with_reducible refine (stream_Back.calls k a0 t158 t159 _ A7.out).mono ?_); rintro e w' ⟨rfl, ⟨nd, rfl⟩⟩))
      go_ret
      exact ⟨by first | rfl | (simp [errW_none, errW_some] <;> rfl) | (simp [*, errW_none, errW_some] <;> rfl), by repeat (first | (with_reducible first | exact HB.out | apply below_alloc | apply pw_below_drewN | apply below_drew1) | exact HB.out)⟩
  · replace c5 := Bool.eq_false_iff.mpr c5
    subst c5
    have H1 : (some false) = some r := by rw [if_neg (show ¬ (false = true) by decide)] at H; exact H
    clear H
    have H := H1
    clear H1
    obtain rfl := Option.some.inj H
    go_enter Try.func9, Try.ntmps9
    go_wp2_with (first | ((with_reducible refine gate_callee (f := 20) rfl ?_); refine goesL_ (some 8) rfl rfl Try.func20 (by kernel_rfl) rfl #[] rfl (by (try simp only [List.map_toArray, List.map_cons, List.map_nil]); first | done | rfl | (simp only [List.length_drop, List.length_take]; rfl)) ?_; (with_reducible refine (symbolonlaw09_head.calls k  false _ A4.out).mono ?_); rintro e w13 ⟨rfl, hb⟩; refine ⟨_, rfl, ?_⟩; have n0_ := Aside0.mk (below_step (by repeat (first | (with_reducible first | exact HB.out | apply below_alloc | apply pw_below_drewN | apply below_drew1) | exact HB.out)) hb); clear HB; have HB := n0_; clear n0_; (try clear hb); (try clear hb2); (try clear hk); (try clear hi)))
    go_ret
    exact ⟨by first | rfl | (simp [errW_none, errW_some] <;> rfl) | (simp [*, errW_none, errW_some] <;> rfl), by repeat (first | (with_reducible first | exact HB.out | apply below_alloc | apply pw_below_drewN | apply below_drew1) | exact HB.out)⟩

/-- THE ONE PURE STATEMENT of symbolonlaw09_StreamBack: yours. -/
def symbolonlaw09_StreamBack.Pure : Prop := ∀ (a0 : Int) (a1 : Int) (a2 : Int), (Lit.int .u64 a0).wf = true → (Lit.int .u64 a1).wf = true → (Lit.int .u64 a2).wf = true → ∃ k, symbolonlaw09_StreamBack.f k a0 a1 a2 = some true
theorem symbolonlaw09_StreamBack.walk (P : symbolonlaw09_StreamBack.Pure) (a0 : Int) (a1 : Int) (a2 : Int) (w : World) (w0 : (Lit.int .u64 a0).wf = true) (w1 : (Lit.int .u64 a1).wf = true) (w2 : (Lit.int .u64 a2).wf = true) :
    Calls Try.prog 9 #[.int .u64 a0, .int .u64 a1, .int .u64 a2] w fun e w' => e = .returned (.bool true) ∧ Below w.heap.size w w' := by
  obtain ⟨k, h⟩ := P a0 a1 a2 w0 w1 w2
  refine (symbolonlaw09_StreamBack.calls k a0 a1 a2 true w h).mono ?_
  rintro e w' ⟨rfl, hd⟩
  exact ⟨rfl, hd⟩

/-! ### symbolonlaw09_StreamApart: function 10 -/
def symbolonlaw09_StreamApart.f (k : Nat) (a0 : Int) (a1 : Int) (a2 : Int) (a3 : Int) : Option (Bool) := (symbolonlaw09_head.f k).bind fun t162 => (if t162 = true then ((stream_Number.f k a0 a2).bind fun t163 => ((stream_Number.f k a0 a3).bind fun t164 => (if ((t163 == t164) == (a2 == a3)) = true then ((stream_Number.f k a0 a2).bind fun t165 => ((stream_Number.f k a1 a2).bind fun t166 => (some ((t165 == t166) == (a0 == a1))))) else (some false)))) else (some false))
theorem symbolonlaw09_StreamApart.mono : ∀ a0 a1 a2 a3 k, LeO (symbolonlaw09_StreamApart.f k a0 a1 a2 a3) (symbolonlaw09_StreamApart.f (k + 1) a0 a1 a2 a3) := by
  intro a0 a1 a2 a3 k
  unfold symbolonlaw09_StreamApart.f
  repeat' first
      | (with_reducible exact stream_Number.mono _ _ _)
      | (with_reducible exact symbolonlaw09_head.mono _)
      | (with_reducible exact LeO.refl _)
      | (with_reducible exact LeO.none _)
      | (with_reducible refine LeO.ite ?_ ?_)
      | (with_reducible refine LeO.bind ?_ (fun _ => ?_))
      | exact stream_Number.mono _ _ _
      | exact symbolonlaw09_head.mono _
      | exact LeO.none _
      | refine LeO.ite ?_ ?_
      | refine LeO.bind ?_ (fun _ => ?_)
set_option maxHeartbeats 8000000 in
set_option maxRecDepth 100000 in
theorem symbolonlaw09_StreamApart.calls (k : Nat) (a0 : Int) (a1 : Int) (a2 : Int) (a3 : Int) (r : Bool) (w : World) (h : symbolonlaw09_StreamApart.f k a0 a1 a2 a3 = some r) :
    Calls Try.prog 10 #[.int .u64 a0, .int .u64 a1, .int .u64 a2, .int .u64 a3] w fun e w' => e = .returned (.bool r) ∧ Below w.heap.size w w' := by
  have HB := Aside0.mk (Below.refl w.heap.size w)
  have H : ((symbolonlaw09_head.f k).bind fun t162 => (if t162 = true then ((stream_Number.f k a0 a2).bind fun t163 => ((stream_Number.f k a0 a3).bind fun t164 => (if ((t163 == t164) == (a2 == a3)) = true then ((stream_Number.f k a0 a2).bind fun t165 => ((stream_Number.f k a1 a2).bind fun t166 => (some ((t165 == t166) == (a0 == a1))))) else (some false)))) else (some false))) = some r := h
  clear h
  replace H := Option.bind_eq_some_iff.mp H
  obtain ⟨t162, A50, H⟩ := H
  replace H : (if t162 = true then ((stream_Number.f k a0 a2).bind fun t163 => ((stream_Number.f k a0 a3).bind fun t164 => (if ((t163 == t164) == (a2 == a3)) = true then ((stream_Number.f k a0 a2).bind fun t165 => ((stream_Number.f k a1 a2).bind fun t166 => (some ((t165 == t166) == (a0 == a1))))) else (some false)))) else (some false)) = some r := H
  have A5 := Aside0.mk A50
  clear A50
  by_cases c6 : t162 = true
  · subst c6
    have H1 : ((stream_Number.f k a0 a2).bind fun t163 => ((stream_Number.f k a0 a3).bind fun t164 => (if ((t163 == t164) == (a2 == a3)) = true then ((stream_Number.f k a0 a2).bind fun t165 => ((stream_Number.f k a1 a2).bind fun t166 => (some ((t165 == t166) == (a0 == a1))))) else (some false)))) = some r := by rw [if_pos rfl] at H; exact H
    clear H
    have H := H1
    clear H1
    replace H := Option.bind_eq_some_iff.mp H
    obtain ⟨t163, A70, H⟩ := H
    replace H : ((stream_Number.f k a0 a3).bind fun t164 => (if ((t163 == t164) == (a2 == a3)) = true then ((stream_Number.f k a0 a2).bind fun t165 => ((stream_Number.f k a1 a2).bind fun t166 => (some ((t165 == t166) == (a0 == a1))))) else (some false))) = some r := H
    have A7 := Aside0.mk A70
    clear A70
    replace H := Option.bind_eq_some_iff.mp H
    obtain ⟨t164, A80, H⟩ := H
    replace H : (if ((t163 == t164) == (a2 == a3)) = true then ((stream_Number.f k a0 a2).bind fun t165 => ((stream_Number.f k a1 a2).bind fun t166 => (some ((t165 == t166) == (a0 == a1))))) else (some false)) = some r := H
    have A8 := Aside0.mk A80
    clear A80
    by_cases c9 : ((t163 == t164) == (a2 == a3)) = true
    · rw [if_pos c9] at H
      have c9b0 : ((t163 == t164) == (a2 == a3)) = true := c9
      (try (have c9b1 : decide ((t163 == t164) = (a2 == a3)) = true := by simpa using c9))
      (try (have c9b2 : ((t163 == t164) == (a2 == a3)) = true := by simpa using c9))
      clear c9
      replace H := Option.bind_eq_some_iff.mp H
      obtain ⟨t165, A100, H⟩ := H
      replace H : ((stream_Number.f k a1 a2).bind fun t166 => (some ((t165 == t166) == (a0 == a1)))) = some r := H
      have A10 := Aside0.mk A100
      obtain rfl : t163 = t165 := Option.some.inj (A7.out.symm.trans A10.out)
      clear A100
      replace H := Option.bind_eq_some_iff.mp H
      obtain ⟨t166, A110, H⟩ := H
      replace H : (some ((t163 == t166) == (a0 == a1))) = some r := H
      have A11 := Aside0.mk A110
      clear A110
      obtain rfl := Option.some.inj H
      go_enter Try.func10, Try.ntmps10
      go_wp2_with (first | ((with_reducible refine gate_callee (f := 20) rfl ?_); refine goesL_ (some 10) rfl rfl Try.func20 (by kernel_rfl) rfl #[] rfl (by (try simp only [List.map_toArray, List.map_cons, List.map_nil]); first | done | rfl | (simp only [List.length_drop, List.length_take]; rfl)) ?_; (with_reducible refine (symbolonlaw09_head.calls k  true _ A5.out).mono ?_); rintro e w12 ⟨rfl, hb⟩; refine ⟨_, rfl, ?_⟩; have n0_ := Aside0.mk (below_step (by repeat (first | (with_reducible first | exact HB.out | apply below_alloc | apply pw_below_drewN | apply below_drew1) | exact HB.out)) hb); clear HB; have HB := n0_; clear n0_; (try clear hb); (try clear hb2); (try clear hk); (try clear hi)) | (go_at_call 21; (with_reducible refine (stream_Number.calls k a0 a2 t163 _ A7.out).mono ?_); rintro e w' ⟨rfl, ⟨nd, rfl⟩⟩) | (go_at_call 21; (with_reducible refine (stream_Number.calls k a0 a3 t164 _ A8.out).mono ?_); rintro e w' ⟨rfl, ⟨nd, rfl⟩⟩) | (go_at_call 21; (with_reducible refine (stream_Number.calls k a0 a2 t163 _ A10.out).mono ?_); rintro e w' ⟨rfl, ⟨nd, rfl⟩⟩) | (go_at_call 21; (with_reducible refine (stream_Number.calls k a1 a2 t166 _ A11.out).mono ?_); rintro e w' ⟨rfl, ⟨nd, rfl⟩⟩))
      go_ret
      exact ⟨by first | rfl | (simp [errW_none, errW_some] <;> rfl) | (simp [*, errW_none, errW_some] <;> rfl), by repeat (first | (with_reducible first | exact HB.out | apply below_alloc | apply pw_below_drewN | apply below_drew1) | exact HB.out)⟩
    · rw [if_neg c9] at H
      have c9b0 : ((t163 == t164) == (a2 == a3)) = false := by simpa using c9
      (try (have c9b1 : decide ((t163 == t164) = (a2 == a3)) = false := by simpa using c9))
      (try (have c9b2 : ((t163 == t164) == (a2 == a3)) = false := by simpa using c9))
      (try (have c9b3 : ¬ ((t163 == t164) = (a2 == a3)) := by simpa using c9))
      clear c9
      obtain rfl := Option.some.inj H
      go_enter Try.func10, Try.ntmps10
      go_wp2_with (first | ((with_reducible refine gate_callee (f := 20) rfl ?_); refine goesL_ (some 10) rfl rfl Try.func20 (by kernel_rfl) rfl #[] rfl (by (try simp only [List.map_toArray, List.map_cons, List.map_nil]); first | done | rfl | (simp only [List.length_drop, List.length_take]; rfl)) ?_; (with_reducible refine (symbolonlaw09_head.calls k  true _ A5.out).mono ?_); rintro e w13 ⟨rfl, hb⟩; refine ⟨_, rfl, ?_⟩; have n0_ := Aside0.mk (below_step (by repeat (first | (with_reducible first | exact HB.out | apply below_alloc | apply pw_below_drewN | apply below_drew1) | exact HB.out)) hb); clear HB; have HB := n0_; clear n0_; (try clear hb); (try clear hb2); (try clear hk); (try clear hi)) | (go_at_call 21; (with_reducible refine (stream_Number.calls k a0 a2 t163 _ A7.out).mono ?_); rintro e w' ⟨rfl, ⟨nd, rfl⟩⟩) | (go_at_call 21; (with_reducible refine (stream_Number.calls k a0 a3 t164 _ A8.out).mono ?_); rintro e w' ⟨rfl, ⟨nd, rfl⟩⟩))
      go_ret
      exact ⟨by first | rfl | (simp [errW_none, errW_some] <;> rfl) | (simp [*, errW_none, errW_some] <;> rfl), by repeat (first | (with_reducible first | exact HB.out | apply below_alloc | apply pw_below_drewN | apply below_drew1) | exact HB.out)⟩
  · replace c6 := Bool.eq_false_iff.mpr c6
    subst c6
    have H1 : (some false) = some r := by rw [if_neg (show ¬ (false = true) by decide)] at H; exact H
    clear H
    have H := H1
    clear H1
    obtain rfl := Option.some.inj H
    go_enter Try.func10, Try.ntmps10
    go_wp2_with (first | ((with_reducible refine gate_callee (f := 20) rfl ?_); refine goesL_ (some 10) rfl rfl Try.func20 (by kernel_rfl) rfl #[] rfl (by (try simp only [List.map_toArray, List.map_cons, List.map_nil]); first | done | rfl | (simp only [List.length_drop, List.length_take]; rfl)) ?_; (with_reducible refine (symbolonlaw09_head.calls k  false _ A5.out).mono ?_); rintro e w14 ⟨rfl, hb⟩; refine ⟨_, rfl, ?_⟩; have n0_ := Aside0.mk (below_step (by repeat (first | (with_reducible first | exact HB.out | apply below_alloc | apply pw_below_drewN | apply below_drew1) | exact HB.out)) hb); clear HB; have HB := n0_; clear n0_; (try clear hb); (try clear hb2); (try clear hk); (try clear hi)))
    go_ret
    exact ⟨by first | rfl | (simp [errW_none, errW_some] <;> rfl) | (simp [*, errW_none, errW_some] <;> rfl), by repeat (first | (with_reducible first | exact HB.out | apply below_alloc | apply pw_below_drewN | apply below_drew1) | exact HB.out)⟩

/-- THE ONE PURE STATEMENT of symbolonlaw09_StreamApart: yours. -/
def symbolonlaw09_StreamApart.Pure : Prop := ∀ (a0 : Int) (a1 : Int) (a2 : Int) (a3 : Int), (Lit.int .u64 a0).wf = true → (Lit.int .u64 a1).wf = true → (Lit.int .u64 a2).wf = true → (Lit.int .u64 a3).wf = true → ∃ k, symbolonlaw09_StreamApart.f k a0 a1 a2 a3 = some true
theorem symbolonlaw09_StreamApart.walk (P : symbolonlaw09_StreamApart.Pure) (a0 : Int) (a1 : Int) (a2 : Int) (a3 : Int) (w : World) (w0 : (Lit.int .u64 a0).wf = true) (w1 : (Lit.int .u64 a1).wf = true) (w2 : (Lit.int .u64 a2).wf = true) (w3 : (Lit.int .u64 a3).wf = true) :
    Calls Try.prog 10 #[.int .u64 a0, .int .u64 a1, .int .u64 a2, .int .u64 a3] w fun e w' => e = .returned (.bool true) ∧ Below w.heap.size w w' := by
  obtain ⟨k, h⟩ := P a0 a1 a2 a3 w0 w1 w2 w3
  refine (symbolonlaw09_StreamApart.calls k a0 a1 a2 a3 true w h).mono ?_
  rintro e w' ⟨rfl, hd⟩
  exact ⟨rfl, hd⟩

end Go.Proofs.Ytlfjebbcmngihaa.PSt
