/- The Go functions that this seat's statements reach: each with the plain function that it computes, for every input at which that function answers. Written by a program of the session (wip/tools/hprint.py) over the kit's printer; contracts that the printer does not take are proved by hand among them. -/
import Derived.Test.YtlfjebbcmngihaaPStx0
import Derived.Test.YtlfjebbcmngihaaPStx2
namespace Go.Proofs.Ytlfjebbcmngihaa.PSt
open Go.RowKit Go.Proofs.YtlfjebbcmngihaaW.PrintWords Go.Proofs.YtlfjebbcmngihaaW.PrintLast Go.Proofs.YtlfjebbcmngihaaW.PrintMore
attribute [local go_sem] max2_int min2_int max_two min_two max_three min_three max_four min_four   -- for this text's walks alone
set_option linter.unusedVariables false
set_option linter.unusedSimpArgs false

-- HANDTEXT stream_Back (stream.tpl)
def stream_Back.f (k : Nat) (a0 : Int) (a1 : Int) : Option (Int) :=
  (stream_fold.f k a1 31 2).bind fun t1 => (stream_Back_1.f k t1 10723151780598845931).bind fun t2 =>
  (stream_fold.f k t2 27 2).bind fun t3 => (stream_Back_1.f k t3 13787848793156543929).bind fun t4 =>
  (stream_fold.f k t4 30 2).bind fun t5 => (stream_Back_1.f k (IntKind.u64.wrap (t5 - a0)) 11400714819323198485).bind fun t6 =>
  some (IntKind.u64.wrap (t6 - 1))
theorem stream_Back.mono : ∀ a0 a1 k, LeO (stream_Back.f k a0 a1) (stream_Back.f (k + 1) a0 a1) := by
  intro a0 a1 k
  unfold stream_Back.f
  repeat' first
      | (with_reducible exact stream_fold.mono _ _ _ _)
      | (with_reducible exact stream_Back_1.mono _ _ _)
      | (with_reducible exact LeO.refl _)
      | (with_reducible refine LeO.bind ?_ (fun _ => ?_))
set_option maxHeartbeats 4000000 in
set_option maxRecDepth 100000 in
theorem stream_Back.calls (k : Nat) (a0 : Int) (a1 : Int) (r : Int) (w : World) (h : stream_Back.f k a0 a1 = some r) :
    Calls Try.prog 23 #[.int .u64 a0, .int .u64 a1] w fun e w' => e = .returned (.int .u64 r) ∧ Drawn0 w w' := by
  unfold stream_Back.f at h
  obtain ⟨t1, A1, h⟩ := Option.bind_eq_some_iff.mp h
  obtain ⟨t2, A2, h⟩ := Option.bind_eq_some_iff.mp h
  obtain ⟨t3, A3, h⟩ := Option.bind_eq_some_iff.mp h
  obtain ⟨t4, A4, h⟩ := Option.bind_eq_some_iff.mp h
  obtain ⟨t5, A5, h⟩ := Option.bind_eq_some_iff.mp h
  obtain ⟨t6, A6, h⟩ := Option.bind_eq_some_iff.mp h
  obtain rfl := Option.some.inj h
  replace A1 := Aside0.mk A1
  replace A2 := Aside0.mk A2
  replace A3 := Aside0.mk A3
  replace A4 := Aside0.mk A4
  replace A5 := Aside0.mk A5
  replace A6 := Aside0.mk A6
  go_enter Try.func23, Try.ntmps23
  go_wp2_with (first
    | (go_at_call 30; ((with_reducible refine (stream_fold.calls k a1 31 2 t1 _ A1.out).mono ?_); rintro e w' ⟨rfl, ⟨nd, rfl⟩⟩))
    | (go_at_call 32; ((with_reducible refine (stream_Back_1.calls k t1 10723151780598845931 t2 _ A2.out).mono ?_); rintro e w' ⟨rfl, ⟨nd, rfl⟩⟩))
    | (go_at_call 30; ((with_reducible refine (stream_fold.calls k t2 27 2 t3 _ A3.out).mono ?_); rintro e w' ⟨rfl, ⟨nd, rfl⟩⟩))
    | (go_at_call 32; ((with_reducible refine (stream_Back_1.calls k t3 13787848793156543929 t4 _ A4.out).mono ?_); rintro e w' ⟨rfl, ⟨nd, rfl⟩⟩))
    | (go_at_call 30; ((with_reducible refine (stream_fold.calls k t4 30 2 t5 _ A5.out).mono ?_); rintro e w' ⟨rfl, ⟨nd, rfl⟩⟩))
    | (go_at_call 32; ((with_reducible refine (stream_Back_1.calls k (IntKind.u64.wrap (t5 - a0)) 11400714819323198485 t6 _ A6.out).mono ?_); rintro e w' ⟨rfl, ⟨nd, rfl⟩⟩)))
  go_ret
  exact ⟨by first | rfl | (simp; done), by repeat (first | exact Drawn0.refl _ | apply Drawn0.step)⟩

end Go.Proofs.Ytlfjebbcmngihaa.PSt
