/- What the structs among the arguments say. -/
import Derived.Test.YtpmkpiffbdcflaaGL
import Derived.Test.YtpmkpiffbdcflaaRead
set_option linter.unusedVariables false
namespace Go.Proofs.Ytpmkpiffbdcflaa
open Go Go.RowKit
def good_api_Sector (x : api_Sector) : Prop := (Lit.int .i64 x.Gen).wf = true ∧ (Lit.int .i64 x.Place).wf = true ∧ (Lit.int .i64 x.Parts).wf = true ∧ (Lit.int .i64 x.Kept).wf = true ∧ (x.Body.length ≤ maxLen ∧ ∀ y ∈ x.Body, (0 ≤ y ∧ y < 256))
set_option maxRecDepth 100000 in
theorem rdS_api_Sector {H : Type} {enc : TypeId × Value → H} {w : World} {spare : Nat → Bool} {held : Bool} : Rd enc Try.prog w spare held 53 k_api_Sector good_api_Sector := fun n cs x h => by
  obtain ⟨xs, m, _, _, hl, hx, hg⟩ := DataW.trod_struct Try.underlying53 h
  rw [show Try.prog.cellsOf 53 = 5 from by kernel_rfl] at hl
  have c2 : Try.prog.cellsOf 2 = 1 := by kernel_rfl
  have c3 : Try.prog.cellsOf 3 = 1 := by kernel_rfl
  have c29 : Try.prog.cellsOf 29 = 1 := by kernel_rfl
  match cs, hl, xs, hx with
  | [v0, v1, v2, v3, v4], _, [y0, y1, y2, y3, y4], _ =>
    have t0 : DataW.trod enc Try.prog w 0 spare held m 2 (List.take (Try.prog.cellsOf 2) (List.drop 0 [v0, v1, v2, v3, v4])) = [y0, y1, y2, y3, y4][0]? := hg 0 _ rfl
    rw [c2] at t0
    obtain ⟨z0, e0, g0⟩ := (rd_int Try.underlying2) m [v0] y0 t0
    have t1 : DataW.trod enc Try.prog w 0 spare held m 3 (List.take (Try.prog.cellsOf 3) (List.drop 1 [v0, v1, v2, v3, v4])) = [y0, y1, y2, y3, y4][1]? := hg 1 _ rfl
    rw [c3] at t1
    obtain ⟨z1, e1, g1⟩ := (rd_int Try.underlying3) m [v1] y1 t1
    have t2 : DataW.trod enc Try.prog w 0 spare held m 3 (List.take (Try.prog.cellsOf 3) (List.drop 2 [v0, v1, v2, v3, v4])) = [y0, y1, y2, y3, y4][2]? := hg 2 _ rfl
    rw [c3] at t2
    obtain ⟨z2, e2, g2⟩ := (rd_int Try.underlying3) m [v2] y2 t2
    have t3 : DataW.trod enc Try.prog w 0 spare held m 3 (List.take (Try.prog.cellsOf 3) (List.drop 3 [v0, v1, v2, v3, v4])) = [y0, y1, y2, y3, y4][3]? := hg 3 _ rfl
    rw [c3] at t3
    obtain ⟨z3, e3, g3⟩ := (rd_int Try.underlying3) m [v3] y3 t3
    have t4 : DataW.trod enc Try.prog w 0 spare held m 29 (List.take (Try.prog.cellsOf 29) (List.drop 4 [v0, v1, v2, v3, v4])) = [y0, y1, y2, y3, y4][4]? := hg 4 _ rfl
    rw [c29] at t4
    obtain ⟨z4, e4, g4⟩ := (rd_slice Try.underlying29 (by kernel_rfl) (by decide) (rd_byteR Try.underlying5)) m [v4] y4 t4
    cases (show [v0] = [Value.int .i64 z0] from e0)
    cases (show [v1] = [Value.int .i64 z1] from e1)
    cases (show [v2] = [Value.int .i64 z2] from e2)
    cases (show [v3] = [Value.int .i64 z3] from e3)
    obtain ⟨A4, d4, e4, r4⟩ := e4
    cases e4
    exact ⟨⟨z0, z1, z2, z3, z4⟩, ⟨A4, d4, rfl, r4⟩, g0, g1, g2, g3, g4⟩
def good_law18_Op (x : law18_Op) : Prop := (Lit.int .i64 x.What).wf = true ∧ (x.State.length ≤ maxLen ∧ ∀ y ∈ x.State, (0 ≤ y ∧ y < 256)) ∧ (x.Kept.length ≤ maxLen ∧ ∀ y ∈ x.Kept, (y.length ≤ maxLen ∧ ∀ z ∈ y, (0 ≤ z ∧ z < 256))) ∧ (x.Entry.length ≤ maxLen ∧ ∀ y ∈ x.Entry, (0 ≤ y ∧ y < 256)) ∧ (Lit.int .i64 x.N).wf = true ∧ (x.Keep.length ≤ maxLen ∧ ∀ y ∈ x.Keep, True)
set_option maxRecDepth 100000 in
theorem rdS_law18_Op {H : Type} {enc : TypeId × Value → H} {w : World} {spare : Nat → Bool} {held : Bool} : Rd enc Try.prog w spare held 35 k_law18_Op good_law18_Op := fun n cs x h => by
  obtain ⟨xs, m, _, _, hl, hx, hg⟩ := DataW.trod_struct Try.underlying35 h
  rw [show Try.prog.cellsOf 35 = 6 from by kernel_rfl] at hl
  have c3 : Try.prog.cellsOf 3 = 1 := by kernel_rfl
  have c29 : Try.prog.cellsOf 29 = 1 := by kernel_rfl
  have c30 : Try.prog.cellsOf 30 = 1 := by kernel_rfl
  have c33 : Try.prog.cellsOf 33 = 1 := by kernel_rfl
  match cs, hl, xs, hx with
  | [v0, v1, v2, v3, v4, v5], _, [y0, y1, y2, y3, y4, y5], _ =>
    have t0 : DataW.trod enc Try.prog w 0 spare held m 3 (List.take (Try.prog.cellsOf 3) (List.drop 0 [v0, v1, v2, v3, v4, v5])) = [y0, y1, y2, y3, y4, y5][0]? := hg 0 _ rfl
    rw [c3] at t0
    obtain ⟨z0, e0, g0⟩ := (rd_int Try.underlying3) m [v0] y0 t0
    have t1 : DataW.trod enc Try.prog w 0 spare held m 29 (List.take (Try.prog.cellsOf 29) (List.drop 1 [v0, v1, v2, v3, v4, v5])) = [y0, y1, y2, y3, y4, y5][1]? := hg 1 _ rfl
    rw [c29] at t1
    obtain ⟨z1, e1, g1⟩ := (rd_slice Try.underlying29 (by kernel_rfl) (by decide) (rd_byteR Try.underlying5)) m [v1] y1 t1
    have t2 : DataW.trod enc Try.prog w 0 spare held m 30 (List.take (Try.prog.cellsOf 30) (List.drop 2 [v0, v1, v2, v3, v4, v5])) = [y0, y1, y2, y3, y4, y5][2]? := hg 2 _ rfl
    rw [c30] at t2
    obtain ⟨z2, e2, g2⟩ := (rd_slice Try.underlying30 (by kernel_rfl) (by decide) (rd_slice Try.underlying29 (by kernel_rfl) (by decide) (rd_byteR Try.underlying5))) m [v2] y2 t2
    have t3 : DataW.trod enc Try.prog w 0 spare held m 29 (List.take (Try.prog.cellsOf 29) (List.drop 3 [v0, v1, v2, v3, v4, v5])) = [y0, y1, y2, y3, y4, y5][3]? := hg 3 _ rfl
    rw [c29] at t3
    obtain ⟨z3, e3, g3⟩ := (rd_slice Try.underlying29 (by kernel_rfl) (by decide) (rd_byteR Try.underlying5)) m [v3] y3 t3
    have t4 : DataW.trod enc Try.prog w 0 spare held m 3 (List.take (Try.prog.cellsOf 3) (List.drop 4 [v0, v1, v2, v3, v4, v5])) = [y0, y1, y2, y3, y4, y5][4]? := hg 4 _ rfl
    rw [c3] at t4
    obtain ⟨z4, e4, g4⟩ := (rd_int Try.underlying3) m [v4] y4 t4
    have t5 : DataW.trod enc Try.prog w 0 spare held m 33 (List.take (Try.prog.cellsOf 33) (List.drop 5 [v0, v1, v2, v3, v4, v5])) = [y0, y1, y2, y3, y4, y5][5]? := hg 5 _ rfl
    rw [c33] at t5
    obtain ⟨z5, e5, g5⟩ := (rd_slice Try.underlying33 (by kernel_rfl) (by decide) (rd_bool Try.underlying4)) m [v5] y5 t5
    cases (show [v0] = [Value.int .i64 z0] from e0)
    obtain ⟨A1, d1, e1, r1⟩ := e1
    cases e1
    obtain ⟨A2, d2, e2, r2⟩ := e2
    cases e2
    obtain ⟨A3, d3, e3, r3⟩ := e3
    cases e3
    cases (show [v4] = [Value.int .i64 z4] from e4)
    obtain ⟨A5, d5, e5, r5⟩ := e5
    cases e5
    exact ⟨⟨z0, z1, z2, z3, z4, z5⟩, ⟨A1, d1, A2, d2, A3, d3, A5, d5, rfl, r1, r2, r3, r5⟩, g0, g1, g2, g3, g4, g5⟩
end Go.Proofs.Ytpmkpiffbdcflaa
