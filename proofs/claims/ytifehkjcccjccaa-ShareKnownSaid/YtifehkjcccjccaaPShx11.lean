/- The Go functions that this seat's statements reach: each with the plain function that it computes, for every input at which that function answers. Written by a program of the session (wip/tools/hprint.py) over the kit's printer; contracts that the printer does not take are proved by hand among them. -/
import Derived.Test.YtifehkjcccjccaaPShx0
import Derived.Test.YtifehkjcccjccaaPShx10
namespace Go.Proofs.Ytifehkjcccjccaa.PSh
open Go.RowKit Go.Proofs.YtifehkjcccjccaaW.PrintWords Go.Proofs.YtifehkjcccjccaaW.PrintLast Go.Proofs.YtifehkjcccjccaaW.PrintMore
attribute [local go_sem] max2_int min2_int max_two min_two max_three min_three max_four min_four   -- for this text's walks alone
set_option linter.unusedVariables false
set_option linter.unusedSimpArgs false

-- HANDTEXT share_Part (share.tpl)
set_option maxHeartbeats 1000000 in
set_option maxRecDepth 100000 in
theorem share_Part_1.calls (s x : Int) (p : Addr) (W : World) (hc : W.cell? p = some (.int .i64 s)) :
    Calls Try.prog 50 #[.int .u64 x, .pointer (some p)] W fun e w' => e = .returned (.int .u64 (if s = 0 then x else 0)) ∧ Drawn0 W w' := by
  by_cases h : s = 0
  · subst h
    rw [if_pos rfl]
    go_enter Try.func50, Try.ntmps50
    go_wp2
    go_ret
    exact ⟨rfl, by repeat (first | exact Drawn0.refl _ | apply Drawn0.step)⟩
  · rw [if_neg h]
    have hb : (s != 0) = true := bne_iff_ne.mpr h
    clear h
    go_enter Try.func50, Try.ntmps50
    go_wp2
    go_ret
    exact ⟨rfl, by repeat (first | exact Drawn0.refl _ | apply Drawn0.step)⟩
def share_Part.f (k : Nat) (a0 : Int) (l0 : List Int) : Option (List Int) := turned.f (fun x => some (if a0 = 0 then x else 0)) k l0
theorem share_Part.mono : ∀ a0 a1 k, LeO (share_Part.f k a0 a1) (share_Part.f (k + 1) a0 a1) := fun a0 a1 k => turned.mono _ a1 k
set_option maxHeartbeats 1000000 in
set_option maxRecDepth 100000 in
theorem share_Part.calls (k : Nat) (a0 : Int) (A1 : Option Addr) (c1 : Nat) (l1 : List Int) (r : List Int) (w : World) (hr1 : Kd.C (Kd.int .u64) w A1 l1.length l1) (hc1 : l1.length ≤ c1) (h : share_Part.f k a0 l1 = some r) :
    Calls Try.prog 39 #[.int .i64 a0, .slice A1 l1.length c1] w fun e w' => ∃ v0_ : Value, e = .returned (v0_) ∧ Kd.R (Kd.int .u64) 23 w' w.heap.size (fun _ => True) v0_ r ∧ Below w.heap.size w w' := by
  replace h : Aside0 (turned.f (fun x => some (if a0 = 0 then x else 0)) k l1 = some r) := ⟨h⟩
  replace hr1 : Aside0 (Kd.C (Kd.int .u64) (w.alloc (.cells #[.int .i64 a0] 3)) A1 l1.length l1) := ⟨Kd.C_below hr1 (below_alloc (Below.refl _ _) _)⟩
  replace hc1 := Aside0.mk hc1
  have hcell : Aside0 ((w.alloc (.cells #[.int .i64 a0] 3)).cell? ⟨w.heap.size, 0, none⟩ = some (.int .i64 a0)) := ⟨(blk_cell (blk_new w (.cells #[.int .i64 a0] 3)) 0).trans rfl⟩
  have hmf : ∀ (fn : Fn) (first cap : Array Value) (w : World), (Instr.makeFunc fn first cap).run Try.prog w = .ok (.func fn first cap) w := fun _ _ _ _ => rfl
  go_enter Try.func39, Try.ntmps39
  go_wp2_with (go_at_call 49; ((with_reducible refine (turned.calls (fun x => some (if a0 = 0 then x else 0)) Try.func50 (by kernel_rfl) rfl #[.pointer (some ⟨w.heap.size, 0, none⟩)] k A1 c1 l1 r _ (fun W hB x z hz => by cases hz; simpa using share_Part_1.calls a0 x ⟨w.heap.size, 0, none⟩ W (pw_cell_below hB hcell.out)) hr1.out hc1.out h.out).mono ?_); rintro e w' ⟨v, rfl, hR, hB⟩; replace hR := Aside0.mk (Kd.R_lower hR (show w.heap.size ≤ _ by simp)); replace hB := Aside0.mk (below_step (below_alloc (Below.refl _ _) _) hB)))
  go_ret
  exact ⟨_, rfl, hR.out, hB.out⟩

end Go.Proofs.Ytifehkjcccjccaa.PSh
