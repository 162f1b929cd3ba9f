/- What the structs among the arguments say. -/
import Derived.Test.YtflkagoglhckoaaGL
import Derived.Test.YtflkagoglhckoaaRead
set_option linter.unusedVariables false
namespace Go.Proofs.Ytflkagoglhckoaa
open Go Go.RowKit
def good_law22_Op (x : law22_Op) : Prop := (Lit.int .i64 x.What).wf = true ∧ (Lit.int .i64 x.To).wf = true ∧ (Lit.int .i64 x.I).wf = true ∧ (x.B.length ≤ maxLen ∧ ∀ y ∈ x.B, True)
theorem rdS_law22_Op {H : Type} {enc : TypeId × Value → H} {w : World} {spare : Nat → Bool} {held : Bool} : Rd enc Try.prog w spare held 37 k_law22_Op good_law22_Op := fun n cs x h => by
  obtain ⟨xs, m, _, _, hl, hx, hg⟩ := DataW.trod_struct Try.underlying37 h
  rw [show Try.prog.cellsOf 37 = 4 from by kernel_rfl] at hl
  have c3 : Try.prog.cellsOf 3 = 1 := by kernel_rfl
  have c35 : Try.prog.cellsOf 35 = 1 := by kernel_rfl
  match cs, hl, xs, hx with
  | [v0, v1, v2, v3], _, [y0, y1, y2, y3], _ =>
    have t0 : DataW.trod enc Try.prog w 0 spare held m 3 (List.take (Try.prog.cellsOf 3) (List.drop 0 [v0, v1, v2, v3])) = [y0, y1, y2, y3][0]? := hg 0 _ rfl
    rw [c3] at t0
    obtain ⟨z0, e0, g0⟩ := (rd_int Try.underlying3) m [v0] y0 t0
    have t1 : DataW.trod enc Try.prog w 0 spare held m 3 (List.take (Try.prog.cellsOf 3) (List.drop 1 [v0, v1, v2, v3])) = [y0, y1, y2, y3][1]? := hg 1 _ rfl
    rw [c3] at t1
    obtain ⟨z1, e1, g1⟩ := (rd_int Try.underlying3) m [v1] y1 t1
    have t2 : DataW.trod enc Try.prog w 0 spare held m 3 (List.take (Try.prog.cellsOf 3) (List.drop 2 [v0, v1, v2, v3])) = [y0, y1, y2, y3][2]? := hg 2 _ rfl
    rw [c3] at t2
    obtain ⟨z2, e2, g2⟩ := (rd_int Try.underlying3) m [v2] y2 t2
    have t3 : DataW.trod enc Try.prog w 0 spare held m 35 (List.take (Try.prog.cellsOf 35) (List.drop 3 [v0, v1, v2, v3])) = [y0, y1, y2, y3][3]? := hg 3 _ rfl
    rw [c35] at t3
    obtain ⟨z3, e3, g3⟩ := (rd_slice Try.underlying35 (by kernel_rfl) (by decide) (rd_byte Try.underlying5)) m [v3] y3 t3
    cases (show [v0] = [Value.int .i64 z0] from e0)
    cases (show [v1] = [Value.int .i64 z1] from e1)
    cases (show [v2] = [Value.int .i64 z2] from e2)
    obtain ⟨A3, d3, e3, r3⟩ := e3
    cases e3
    exact ⟨⟨z0, z1, z2, z3⟩, ⟨A3, d3, rfl, r3⟩, g0, g1, g2, g3⟩
end Go.Proofs.Ytflkagoglhckoaa
