/- The Go functions that this seat's statements reach: each with the plain function that it computes, for every input at which that function answers. Written by a program of the session (wip/tools/hprint.py) over the kit's printer; contracts that the printer does not take are proved by hand among them. -/
import Derived.Test.YtifehkjcccjccaaPRgx0
import Derived.Test.YtifehkjcccjccaaPRgx3
namespace Go.Proofs.Ytifehkjcccjccaa.PRg
open Go.RowKit Go.Proofs.YtifehkjcccjccaaW.PrintWords Go.Proofs.YtifehkjcccjccaaW.PrintLast Go.Proofs.YtifehkjcccjccaaW.PrintMore
attribute [local go_sem] max2_int min2_int max_two min_two max_three min_three max_four min_four   -- for this text's walks alone
set_option linter.unusedVariables false
set_option linter.unusedSimpArgs false

-- HANDTEXT ring_Scale (ring.tpl)
set_option maxHeartbeats 1000000 in
set_option maxRecDepth 100000 in
theorem ring_Scale_1.calls (s x y : Int) (p : Addr) (W : World) (hc : W.cell? p = some (.int .u64 s)) :
    Calls Try.prog 46 #[.int .u64 x, .int .u64 y, .pointer (some p)] W fun e w' => e = .returned (.int .u64 (IntKind.u64.wrap (s * x))) ∧ Drawn0 W w' := by
  go_enter Try.func46, Try.ntmps46
  go_wp2
  go_ret
  exact ⟨rfl, by repeat (first | exact Drawn0.refl _ | apply Drawn0.step)⟩
def ring_Scale.f (k : Nat) (a0 : Int) (l0 : List Int) : Option (List Int) := two.f (fun x _ => some (IntKind.u64.wrap (a0 * x))) k l0 l0
theorem ring_Scale.mono : ∀ a0 a1 k, LeO (ring_Scale.f k a0 a1) (ring_Scale.f (k + 1) a0 a1) := fun a0 a1 k => two.mono _ a1 a1 k
set_option maxHeartbeats 1000000 in
set_option maxRecDepth 100000 in
theorem ring_Scale.calls (k : Nat) (a0 : Int) (A1 : Option Addr) (c1 : Nat) (l1 : List Int) (r : List Int) (w : World) (hr1 : Kd.C (Kd.int .u64) w A1 l1.length l1) (hc1 : l1.length ≤ c1) (h : ring_Scale.f k a0 l1 = some r) :
    Calls Try.prog 27 #[.int .u64 a0, .slice A1 l1.length c1] w fun e w' => ∃ v0_ : Value, e = .returned (v0_) ∧ Kd.R (Kd.int .u64) 23 w' w.heap.size (fun _ => True) v0_ r ∧ Below w.heap.size w w' := by
  replace h : Aside0 (two.f (fun x _ => some (IntKind.u64.wrap (a0 * x))) k l1 l1 = some r) := ⟨h⟩
  replace hr1 : Aside0 (Kd.C (Kd.int .u64) (w.alloc (.cells #[.int .u64 a0] 23)) A1 l1.length l1) := ⟨Kd.C_below hr1 (below_alloc (Below.refl _ _) _)⟩
  replace hc1 := Aside0.mk hc1
  have hcell : Aside0 ((w.alloc (.cells #[.int .u64 a0] 23)).cell? ⟨w.heap.size, 0, none⟩ = some (.int .u64 a0)) := ⟨(blk_cell (blk_new w (.cells #[.int .u64 a0] 23)) 0).trans rfl⟩
  have hmf : ∀ (fn : Fn) (first cap : Array Value) (w : World), (Instr.makeFunc fn first cap).run Try.prog w = .ok (.func fn first cap) w := fun _ _ _ _ => rfl
  go_enter Try.func27, Try.ntmps27
  go_wp2_with (go_at_call 42; ((with_reducible refine (two.calls (fun x _ => some (IntKind.u64.wrap (a0 * x))) Try.func46 (by kernel_rfl) rfl #[.pointer (some ⟨w.heap.size, 0, none⟩)] k A1 c1 l1 A1 c1 l1 r _ (fun W hB x y z hz => by cases hz; simpa using ring_Scale_1.calls a0 x y ⟨w.heap.size, 0, none⟩ W (pw_cell_below hB hcell.out)) hr1.out hc1.out hr1.out hc1.out h.out).mono ?_); rintro e w' ⟨v, rfl, hR, hB⟩; replace hR := Aside0.mk (Kd.R_lower hR (show w.heap.size ≤ _ by simp)); replace hB := Aside0.mk (below_step (below_alloc (Below.refl _ _) _) hB)))
  go_ret
  exact ⟨_, rfl, hR.out, hB.out⟩

end Go.Proofs.Ytifehkjcccjccaa.PRg
