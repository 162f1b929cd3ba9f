/- The Go functions that this seat's statements reach: each with the plain function that it computes, for every input at which that function answers. Written by a program of the session (wip/tools/hprint.py) over the kit's printer; contracts that the printer does not take are proved by hand among them. -/
import Derived.Test.YtlfjebbcmngihaaPTrx0
import Derived.Test.YtlfjebbcmngihaaPTrx2
namespace Go.Proofs.Ytlfjebbcmngihaa.PTr
open Go.RowKit Go.Proofs.YtlfjebbcmngihaaW.PrintWords Go.Proofs.YtlfjebbcmngihaaW.PrintLast Go.Proofs.YtlfjebbcmngihaaW.PrintMore
attribute [local go_sem] max2_int min2_int max_two min_two max_three min_three max_four min_four   -- for this text's walks alone
set_option linter.unusedVariables false
set_option linter.unusedSimpArgs false

-- HANDTEXT triple_Half (triple.tpl)
set_option maxHeartbeats 1000000 in
set_option maxRecDepth 100000 in
theorem triple_masks.calls (k : Nat) (a0 a1 : Int) (t0 t1 t2 t3 t4 : Int) (w : World)
    (A0 : Aside0 (stream_Number.f k a0 (IntKind.u64.wrap (IntKind.u64.wrap (5 * a1))) = some t0))
    (A1 : Aside0 (stream_Number.f k a0 (IntKind.u64.wrap (IntKind.u64.wrap (5 * a1) + 1)) = some t1))
    (A2 : Aside0 (stream_Number.f k a0 (IntKind.u64.wrap (IntKind.u64.wrap (5 * a1) + 2)) = some t2))
    (A3 : Aside0 (stream_Number.f k a0 (IntKind.u64.wrap (IntKind.u64.wrap (5 * a1) + 3)) = some t3))
    (A4 : Aside0 (stream_Number.f k a0 (IntKind.u64.wrap (IntKind.u64.wrap (5 * a1) + 4)) = some t4)) :
    Calls Try.prog 27 #[.int .u64 a0, .int .u64 a1] w fun e w' => e = .returned (.agg #[.int .u64 t0, .int .u64 t1, .int .u64 t2, .int .u64 t3, .int .u64 t4]) ∧ Below w.heap.size w w' := by
  have hu := Try.underlying46
  go_enter Try.func27, Try.ntmps27
  go_wp2
  refine wp_loop_rounds 6 ?_
  rw [rounds_succ]
  go_wp2_with (go_at_call 21; ((with_reducible refine (stream_Number.calls k a0 (IntKind.u64.wrap (IntKind.u64.wrap (5 * a1))) t0 _ A0.out).mono ?_); rintro e w' ⟨rfl, ⟨nd, rfl⟩⟩))
  rw [rounds_succ]
  go_wp2_with (go_at_call 21; ((with_reducible refine (stream_Number.calls k a0 (IntKind.u64.wrap (IntKind.u64.wrap (5 * a1) + 1)) t1 _ A1.out).mono ?_); rintro e w' ⟨rfl, ⟨nd, rfl⟩⟩))
  rw [rounds_succ]
  go_wp2_with (go_at_call 21; ((with_reducible refine (stream_Number.calls k a0 (IntKind.u64.wrap (IntKind.u64.wrap (5 * a1) + 2)) t2 _ A2.out).mono ?_); rintro e w' ⟨rfl, ⟨nd, rfl⟩⟩))
  rw [rounds_succ]
  go_wp2_with (go_at_call 21; ((with_reducible refine (stream_Number.calls k a0 (IntKind.u64.wrap (IntKind.u64.wrap (5 * a1) + 3)) t3 _ A3.out).mono ?_); rintro e w' ⟨rfl, ⟨nd, rfl⟩⟩))
  rw [rounds_succ]
  go_wp2_with (go_at_call 21; ((with_reducible refine (stream_Number.calls k a0 (IntKind.u64.wrap (IntKind.u64.wrap (5 * a1) + 4)) t4 _ A4.out).mono ?_); rintro e w' ⟨rfl, ⟨nd, rfl⟩⟩))
  rw [rounds_succ]
  go_wp2
  refine bodyPost_ret (v := .agg #[.int .u64 t0, .int .u64 t1, .int .u64 t2, .int .u64 t3, .int .u64 t4]) ?hres rfl ⟨rfl, ?hbel⟩
  case hbel =>
    with_reducible repeat (first | exact Below.refl _ _ | apply below_alloc | apply pw_below_drewN | refine below_set ?_ (Nat.le_refl _) | refine below_set ?_ (Nat.le_succ _))
  case hres =>
    refine results_cell_row (p := 4) (fr := (0, 0)) (t := 46) (g := w.heap.size) (h := ?h1) (hp := ?h2) (hu := Try.underlying46) (hd := ?h4) (hi := ?h5) (hg := ?hg) ..
    case h1 => rfl
    case h2 => rfl
    case h4 => rfl
    case h5 => kernel_rfl
    refine blk_put (cs := #[.int .u64 t0, .int .u64 t1, .int .u64 t2, .int .u64 t3, .int .u64 0]) ?_ 4 _ rfl
    refine blk_put (cs := #[.int .u64 t0, .int .u64 t1, .int .u64 t2, .int .u64 0, .int .u64 0]) ?_ 3 _ rfl
    refine blk_put (cs := #[.int .u64 t0, .int .u64 t1, .int .u64 0, .int .u64 0, .int .u64 0]) ?_ 2 _ rfl
    refine blk_put (cs := #[.int .u64 t0, .int .u64 0, .int .u64 0, .int .u64 0, .int .u64 0]) ?_ 1 _ rfl
    refine blk_put (cs := #[.int .u64 0, .int .u64 0, .int .u64 0, .int .u64 0, .int .u64 0]) ?_ 0 _ rfl
    repeat (first | refine blk_far ?_ (by simp) _ | refine blk_drewN ?_ _)
    exact blk_alloc (blk_new _ _) _
def triple_Half.f (k : Nat) (a0 : Int) (a1 : Int) (a2 : Int) : Option (Int × Int × Int) :=
  (stream_Number.f k a0 (IntKind.u64.wrap (IntKind.u64.wrap (5 * a2)))).bind fun t0 =>
  (stream_Number.f k a0 (IntKind.u64.wrap (IntKind.u64.wrap (5 * a2) + 1))).bind fun t1 =>
  (stream_Number.f k a0 (IntKind.u64.wrap (IntKind.u64.wrap (5 * a2) + 2))).bind fun t2 =>
  (stream_Number.f k a0 (IntKind.u64.wrap (IntKind.u64.wrap (5 * a2) + 3))).bind fun t3 =>
  (stream_Number.f k a0 (IntKind.u64.wrap (IntKind.u64.wrap (5 * a2) + 4))).bind fun t4 =>
  if a1 = 0 then some (t0, t1, t2) else some (t3, t4, IntKind.u64.wrap (IntKind.u64.wrap (IntKind.u64.wrap (t0 + t3) * IntKind.u64.wrap (t1 + t4)) - t2))
theorem triple_Half.mono : ∀ a0 a1 a2 k, LeO (triple_Half.f k a0 a1 a2) (triple_Half.f (k + 1) a0 a1 a2) := by
  intro a0 a1 a2 k
  unfold triple_Half.f
  repeat' first
      | (with_reducible exact stream_Number.mono _ _ _)
      | (with_reducible exact LeO.refl _)
      | (with_reducible refine LeO.bind ?_ (fun _ => ?_))
set_option maxHeartbeats 2000000 in
set_option maxRecDepth 100000 in
theorem triple_Half.calls (k : Nat) (a0 : Int) (a1 : Int) (a2 : Int) (r1 : Int) (r2 : Int) (r3 : Int) (w : World) (h : triple_Half.f k a0 a1 a2 = some (r1, r2, r3)) :
    Calls Try.prog 14 #[.int .u64 a0, .int .i64 a1, .int .u64 a2] w fun e w' => e = .returned (.agg #[.int .u64 r1, .int .u64 r2, .int .u64 r3]) ∧ Below w.heap.size w w' := by
  unfold triple_Half.f at h
  replace h := Option.bind_eq_some_iff.mp h
  obtain ⟨t0, A0, h⟩ := h
  replace h := Option.bind_eq_some_iff.mp h
  obtain ⟨t1, A1, h⟩ := h
  replace h := Option.bind_eq_some_iff.mp h
  obtain ⟨t2, A2, h⟩ := h
  replace h := Option.bind_eq_some_iff.mp h
  obtain ⟨t3, A3, h⟩ := h
  replace h := Option.bind_eq_some_iff.mp h
  obtain ⟨t4, A4, h⟩ := h
  replace A0 := Aside0.mk A0
  replace A1 := Aside0.mk A1
  replace A2 := Aside0.mk A2
  replace A3 := Aside0.mk A3
  replace A4 := Aside0.mk A4
  have hu := Try.underlying46
  have hu2 := Try.underlying25
  by_cases c : a1 = 0
  · rw [if_pos c] at h
    have cb : (a1 == 0) = true := beq_iff_eq.mpr c
    clear c
    simp only [Option.some.injEq, Prod.mk.injEq] at h
    obtain ⟨rfl, rfl, rfl⟩ := h
    go_enter Try.func14, Try.ntmps14
    go_wp2_with (go_at_call 27; ((with_reducible refine (triple_masks.calls k a0 a2 t0 t1 t2 t3 t4 _ A0 A1 A2 A3 A4).mono ?_); rintro e w1 ⟨rfl, hb⟩); have HBL := Aside0.mk ((hb.block w.heap.size (by simp)).trans (blk_new w (.cells #[.int .u64 0, .int .u64 0, .int .u64 0] 25 (0, 0)))); have HBE := Aside0.mk (((Below.refl w.heap.size w).alloc (Nat.le_refl _) _).trans (hb.mono (by simp))); clear hb; have q0 : w1.cell? ⟨w.heap.size, 0, none⟩ = some (.int .u64 0) := (blk_cell HBL.out 0).trans rfl; have q1 : w1.cell? ⟨w.heap.size, 1, none⟩ = some (.int .u64 0) := (blk_cell HBL.out 1).trans rfl; have q2 : w1.cell? ⟨w.heap.size, 2, none⟩ = some (.int .u64 0) := (blk_cell HBL.out 2).trans rfl; have f0 := blk_frozen HBL.out 0; have f1 := blk_frozen HBL.out 1; have f2 := blk_frozen HBL.out 2; have hlt := blk_lt HBL.out)
    refine bodyPost_ret (v := .agg #[.int .u64 (t0), .int .u64 (t1), .int .u64 (t2)]) ?hres rfl ⟨rfl, ?hbel⟩
    case hbel =>
      with_reducible repeat (first | exact HBE.out | apply below_alloc | apply pw_below_drewN | refine below_set ?_ (Nat.le_refl _))
    case hres =>
      refine results_cell_row (p := 6) (fr := (0, 0)) (t := 25) (g := w.heap.size) (h := ?h1) (hp := ?h2) (hu := Try.underlying25) (hd := ?h4) (hi := ?h5) (hg := ?hg) ..
      case h1 => rfl
      case h2 => rfl
      case h4 => rfl
      case h5 => kernel_rfl
      refine blk_alloc ?_ _
      refine blk_put (cs := #[.int .u64 (t0), .int .u64 (t1), .int .u64 (0)]) ?_ 2 _ rfl
      refine blk_put (cs := #[.int .u64 (t0), .int .u64 (0), .int .u64 (0)]) ?_ 1 _ rfl
      refine blk_put (cs := #[.int .u64 (0), .int .u64 (0), .int .u64 (0)]) ?_ 0 _ rfl
      exact HBL.out
  · rw [if_neg c] at h
    have cb : (a1 == 0) = false := beq_eq_false_iff_ne.mpr c
    clear c
    simp only [Option.some.injEq, Prod.mk.injEq] at h
    obtain ⟨rfl, rfl, rfl⟩ := h
    go_enter Try.func14, Try.ntmps14
    go_wp2_with (go_at_call 27; ((with_reducible refine (triple_masks.calls k a0 a2 t0 t1 t2 t3 t4 _ A0 A1 A2 A3 A4).mono ?_); rintro e w1 ⟨rfl, hb⟩); have HBL := Aside0.mk ((hb.block w.heap.size (by simp)).trans (blk_new w (.cells #[.int .u64 0, .int .u64 0, .int .u64 0] 25 (0, 0)))); have HBE := Aside0.mk (((Below.refl w.heap.size w).alloc (Nat.le_refl _) _).trans (hb.mono (by simp))); clear hb; have q0 : w1.cell? ⟨w.heap.size, 0, none⟩ = some (.int .u64 0) := (blk_cell HBL.out 0).trans rfl; have q1 : w1.cell? ⟨w.heap.size, 1, none⟩ = some (.int .u64 0) := (blk_cell HBL.out 1).trans rfl; have q2 : w1.cell? ⟨w.heap.size, 2, none⟩ = some (.int .u64 0) := (blk_cell HBL.out 2).trans rfl; have f0 := blk_frozen HBL.out 0; have f1 := blk_frozen HBL.out 1; have f2 := blk_frozen HBL.out 2; have hlt := blk_lt HBL.out)
    refine bodyPost_ret (v := .agg #[.int .u64 (t3), .int .u64 (t4), .int .u64 (IntKind.u64.wrap (IntKind.u64.wrap (IntKind.u64.wrap (t0 + t3) * IntKind.u64.wrap (t1 + t4)) - t2))]) ?hresb rfl ⟨rfl, ?hbelb⟩
    case hbelb =>
      with_reducible repeat (first | exact HBE.out | apply below_alloc | apply pw_below_drewN | refine below_set ?_ (Nat.le_refl _))
    case hresb =>
      refine results_cell_row (p := 6) (fr := (0, 0)) (t := 25) (g := w.heap.size) (h := ?h1b) (hp := ?h2b) (hu := Try.underlying25) (hd := ?h4b) (hi := ?h5b) (hg := ?hgb) ..
      case h1b => rfl
      case h2b => rfl
      case h4b => rfl
      case h5b => kernel_rfl
      refine blk_alloc ?_ _
      refine blk_put (cs := #[.int .u64 (t3), .int .u64 (t4), .int .u64 (0)]) ?_ 2 _ rfl
      refine blk_put (cs := #[.int .u64 (t3), .int .u64 (0), .int .u64 (0)]) ?_ 1 _ rfl
      refine blk_put (cs := #[.int .u64 (0), .int .u64 (0), .int .u64 (0)]) ?_ 0 _ rfl
      exact HBL.out

end Go.Proofs.Ytlfjebbcmngihaa.PTr
