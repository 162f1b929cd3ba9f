/- The Go functions that this seat's statements reach: each with the plain function that it computes, for every input at which that function answers. Written by a program of the session (wip/tools/hprint.py) over the kit's printer; contracts that the printer does not take are proved by hand among them. -/
import Derived.Test.YtifehkjcccjccaaPShx0
import Derived.Test.YtifehkjcccjccaaPShx3
import Derived.Test.YtifehkjcccjccaaPShx7
namespace Go.Proofs.Ytifehkjcccjccaa.PSh
open Go.RowKit Go.Proofs.YtifehkjcccjccaaW.PrintWords Go.Proofs.YtifehkjcccjccaaW.PrintLast Go.Proofs.YtifehkjcccjccaaW.PrintMore
attribute [local go_sem] max2_int min2_int max_two min_two max_three min_three max_four min_four   -- for this text's walks alone
set_option linter.unusedVariables false
set_option linter.unusedSimpArgs false

-- HANDTEXT ring_Add (ring.tpl)
def ring_Add.f (k : Nat) (l0 : List Int) (l1 : List Int) : Option (List Int) := two.f ring_Add_1.f k l0 l1
theorem ring_Add.mono : ∀ a0 a1 k, LeO (ring_Add.f k a0 a1) (ring_Add.f (k + 1) a0 a1) := fun a0 a1 k => two.mono ring_Add_1.f a0 a1 k
set_option maxHeartbeats 1000000 in
set_option maxRecDepth 100000 in
theorem ring_Add.calls (k : Nat) (A0 : Option Addr) (c0 : Nat) (l0 : List Int) (A1 : Option Addr) (c1 : Nat) (l1 : List Int) (r : List Int) (w : World) (hr0 : Kd.C (Kd.int .u64) w A0 l0.length l0) (hc0 : l0.length ≤ c0) (hr1 : Kd.C (Kd.int .u64) w A1 l1.length l1) (hc1 : l1.length ≤ c1) (h : ring_Add.f k l0 l1 = some r) :
    Calls Try.prog 21 #[.slice A0 l0.length c0, .slice A1 l1.length c1] w fun e w' => ∃ v0_ : Value, e = .returned (v0_) ∧ Kd.R (Kd.int .u64) 23 w' w.heap.size (fun _ => True) v0_ r ∧ Below w.heap.size w w' := by
  replace h : Aside0 (two.f ring_Add_1.f k l0 l1 = some r) := ⟨h⟩
  replace hr0 := Aside0.mk hr0
  replace hr1 := Aside0.mk hr1
  replace hc0 := Aside0.mk hc0
  replace hc1 := Aside0.mk hc1
  go_enter Try.func21, Try.ntmps21
  go_wp2_with (go_at_call 42; ((with_reducible refine (two.calls ring_Add_1.f Try.func43 (by kernel_rfl) rfl #[] k A0 c0 l0 A1 c1 l1 r _ (fun W _ x y z hz => by simpa using ring_Add_1.calls x y z W hz) hr0.out hc0.out hr1.out hc1.out h.out).mono ?_); rintro e w' ⟨v, rfl, hR, hB⟩; replace hR := Aside0.mk hR; replace hB := Aside0.mk hB))
  go_ret
  exact ⟨_, rfl, hR.out, hB.out⟩

end Go.Proofs.Ytifehkjcccjccaa.PSh
