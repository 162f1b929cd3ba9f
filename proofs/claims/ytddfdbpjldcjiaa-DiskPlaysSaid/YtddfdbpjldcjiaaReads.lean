/- What the structs among the arguments say. -/
import Derived.Test.YtddfdbpjldcjiaaGL
import Derived.Test.YtddfdbpjldcjiaaRead
set_option linter.unusedVariables false
namespace Go.Proofs.Ytddfdbpjldcjiaa
open Go Go.RowKit
def good_law15_Op (x : law15_Op) : Prop := (Lit.int .i64 x.What).wf = true ∧ (Lit.int .i64 x.At).wf = true ∧ (0 ≤ x.C ∧ x.C < 256) ∧ (x.B.length ≤ maxLen ∧ ∀ y ∈ x.B, (0 ≤ y ∧ y < 256)) ∧ (Lit.int .i64 x.N).wf = true ∧ (x.Keep.length ≤ maxLen ∧ ∀ y ∈ x.Keep, True)
theorem rdS_law15_Op {H : Type} {enc : TypeId × Value → H} {w : World} {spare : Nat → Bool} {held : Bool} : Rd enc Try.prog w spare held 34 k_law15_Op good_law15_Op := fun n cs x h => by
  obtain ⟨xs, m, _, _, hl, hx, hg⟩ := DataW.trod_struct Try.underlying34 h
  rw [show Try.prog.cellsOf 34 = 6 from by kernel_rfl] at hl
  have c3 : Try.prog.cellsOf 3 = 1 := by kernel_rfl
  have c5 : Try.prog.cellsOf 5 = 1 := by kernel_rfl
  have c31 : Try.prog.cellsOf 31 = 1 := by kernel_rfl
  have c32 : Try.prog.cellsOf 32 = 1 := by kernel_rfl
  match cs, hl, xs, hx with
  | [v0, v1, v2, v3, v4, v5], _, [y0, y1, y2, y3, y4, y5], _ =>
    have t0 : DataW.trod enc Try.prog w 0 spare held m 3 (List.take (Try.prog.cellsOf 3) (List.drop 0 [v0, v1, v2, v3, v4, v5])) = [y0, y1, y2, y3, y4, y5][0]? := hg 0 _ rfl
    rw [c3] at t0
    obtain ⟨z0, e0, g0⟩ := (rd_int Try.underlying3) m [v0] y0 t0
    have t1 : DataW.trod enc Try.prog w 0 spare held m 3 (List.take (Try.prog.cellsOf 3) (List.drop 1 [v0, v1, v2, v3, v4, v5])) = [y0, y1, y2, y3, y4, y5][1]? := hg 1 _ rfl
    rw [c3] at t1
    obtain ⟨z1, e1, g1⟩ := (rd_int Try.underlying3) m [v1] y1 t1
    have t2 : DataW.trod enc Try.prog w 0 spare held m 5 (List.take (Try.prog.cellsOf 5) (List.drop 2 [v0, v1, v2, v3, v4, v5])) = [y0, y1, y2, y3, y4, y5][2]? := hg 2 _ rfl
    rw [c5] at t2
    obtain ⟨z2, e2, g2⟩ := (rd_byteR Try.underlying5) m [v2] y2 t2
    have t3 : DataW.trod enc Try.prog w 0 spare held m 31 (List.take (Try.prog.cellsOf 31) (List.drop 3 [v0, v1, v2, v3, v4, v5])) = [y0, y1, y2, y3, y4, y5][3]? := hg 3 _ rfl
    rw [c31] at t3
    obtain ⟨z3, e3, g3⟩ := (rd_slice Try.underlying31 (by kernel_rfl) (by decide) (rd_byteR Try.underlying5)) m [v3] y3 t3
    have t4 : DataW.trod enc Try.prog w 0 spare held m 3 (List.take (Try.prog.cellsOf 3) (List.drop 4 [v0, v1, v2, v3, v4, v5])) = [y0, y1, y2, y3, y4, y5][4]? := hg 4 _ rfl
    rw [c3] at t4
    obtain ⟨z4, e4, g4⟩ := (rd_int Try.underlying3) m [v4] y4 t4
    have t5 : DataW.trod enc Try.prog w 0 spare held m 32 (List.take (Try.prog.cellsOf 32) (List.drop 5 [v0, v1, v2, v3, v4, v5])) = [y0, y1, y2, y3, y4, y5][5]? := hg 5 _ rfl
    rw [c32] at t5
    obtain ⟨z5, e5, g5⟩ := (rd_slice Try.underlying32 (by kernel_rfl) (by decide) (rd_bool Try.underlying4)) m [v5] y5 t5
    cases (show [v0] = [Value.int .i64 z0] from e0)
    cases (show [v1] = [Value.int .i64 z1] from e1)
    obtain ⟨e2, b2⟩ := e2
    cases e2
    obtain ⟨A3, d3, e3, r3⟩ := e3
    cases e3
    cases (show [v4] = [Value.int .i64 z4] from e4)
    obtain ⟨A5, d5, e5, r5⟩ := e5
    cases e5
    exact ⟨⟨z0, z1, z2, z3, z4, z5⟩, ⟨A3, d3, A5, d5, rfl, r3, r5, b2⟩, g0, g1, g2, g3, g4, g5⟩
end Go.Proofs.Ytddfdbpjldcjiaa
