/- What the structs among the arguments say. -/
import Derived.Test.YtdkdaggpfgajlaaGL
import Derived.Test.YtdkdaggpfgajlaaRead
set_option linter.unusedVariables false
namespace Go.Proofs.Ytdkdaggpfgajlaa
open Go Go.RowKit
def good_api_Sector (x : api_Sector) : Prop := (Lit.int .i64 x.Gen).wf = true ∧ (Lit.int .i64 x.Place).wf = true ∧ (Lit.int .i64 x.Parts).wf = true ∧ (Lit.int .i64 x.Kept).wf = true ∧ (x.Body.length ≤ maxLen ∧ ∀ y ∈ x.Body, (0 ≤ y ∧ y < 256))
set_option maxRecDepth 100000 in
theorem rdS_api_Sector {H : Type} {enc : TypeId × Value → H} {w : World} {spare : Nat → Bool} {held : Bool} : Rd enc Try.prog w spare held 26 k_api_Sector good_api_Sector := fun n cs x h => by
  obtain ⟨xs, m, _, _, hl, hx, hg⟩ := DataW.trod_struct Try.underlying26 h
  rw [show Try.prog.cellsOf 26 = 5 from by kernel_rfl] at hl
  have c2 : Try.prog.cellsOf 2 = 1 := by kernel_rfl
  have c3 : Try.prog.cellsOf 3 = 1 := by kernel_rfl
  have c23 : Try.prog.cellsOf 23 = 1 := by kernel_rfl
  match cs, hl, xs, hx with
  | [v0, v1, v2, v3, v4], _, [y0, y1, y2, y3, y4], _ =>
    have t0 : DataW.trod enc Try.prog w 0 spare held m 2 (List.take (Try.prog.cellsOf 2) (List.drop 0 [v0, v1, v2, v3, v4])) = [y0, y1, y2, y3, y4][0]? := hg 0 _ rfl
    rw [c2] at t0
    obtain ⟨z0, e0, g0⟩ := (rd_int Try.underlying2) m [v0] y0 t0
    have t1 : DataW.trod enc Try.prog w 0 spare held m 3 (List.take (Try.prog.cellsOf 3) (List.drop 1 [v0, v1, v2, v3, v4])) = [y0, y1, y2, y3, y4][1]? := hg 1 _ rfl
    rw [c3] at t1
    obtain ⟨z1, e1, g1⟩ := (rd_int Try.underlying3) m [v1] y1 t1
    have t2 : DataW.trod enc Try.prog w 0 spare held m 3 (List.take (Try.prog.cellsOf 3) (List.drop 2 [v0, v1, v2, v3, v4])) = [y0, y1, y2, y3, y4][2]? := hg 2 _ rfl
    rw [c3] at t2
    obtain ⟨z2, e2, g2⟩ := (rd_int Try.underlying3) m [v2] y2 t2
    have t3 : DataW.trod enc Try.prog w 0 spare held m 3 (List.take (Try.prog.cellsOf 3) (List.drop 3 [v0, v1, v2, v3, v4])) = [y0, y1, y2, y3, y4][3]? := hg 3 _ rfl
    rw [c3] at t3
    obtain ⟨z3, e3, g3⟩ := (rd_int Try.underlying3) m [v3] y3 t3
    have t4 : DataW.trod enc Try.prog w 0 spare held m 23 (List.take (Try.prog.cellsOf 23) (List.drop 4 [v0, v1, v2, v3, v4])) = [y0, y1, y2, y3, y4][4]? := hg 4 _ rfl
    rw [c23] at t4
    obtain ⟨z4, e4, g4⟩ := (rd_slice Try.underlying23 (by kernel_rfl) (by decide) (rd_byteR Try.underlying5)) m [v4] y4 t4
    cases (show [v0] = [Value.int .i64 z0] from e0)
    cases (show [v1] = [Value.int .i64 z1] from e1)
    cases (show [v2] = [Value.int .i64 z2] from e2)
    cases (show [v3] = [Value.int .i64 z3] from e3)
    obtain ⟨A4, d4, e4, r4⟩ := e4
    cases e4
    exact ⟨⟨z0, z1, z2, z3, z4⟩, ⟨A4, d4, rfl, r4⟩, g0, g1, g2, g3, g4⟩
def good_api_Region (x : api_Region) : Prop := (Lit.int .i64 x.Gen).wf = true ∧ (x.State.length ≤ maxLen ∧ ∀ y ∈ x.State, (0 ≤ y ∧ y < 256)) ∧ (x.Kept.length ≤ maxLen ∧ ∀ y ∈ x.Kept, (y.length ≤ maxLen ∧ ∀ z ∈ y, (0 ≤ z ∧ z < 256))) ∧ (x.More.length ≤ maxLen ∧ ∀ y ∈ x.More, (y.length ≤ maxLen ∧ ∀ z ∈ y, (0 ≤ z ∧ z < 256)))
set_option maxRecDepth 100000 in
theorem rdS_api_Region {H : Type} {enc : TypeId × Value → H} {w : World} {spare : Nat → Bool} {held : Bool} : Rd enc Try.prog w spare held 34 k_api_Region good_api_Region := fun n cs x h => by
  obtain ⟨xs, m, _, _, hl, hx, hg⟩ := DataW.trod_struct Try.underlying34 h
  rw [show Try.prog.cellsOf 34 = 4 from by kernel_rfl] at hl
  have c2 : Try.prog.cellsOf 2 = 1 := by kernel_rfl
  have c23 : Try.prog.cellsOf 23 = 1 := by kernel_rfl
  have c32 : Try.prog.cellsOf 32 = 1 := by kernel_rfl
  match cs, hl, xs, hx with
  | [v0, v1, v2, v3], _, [y0, y1, y2, y3], _ =>
    have t0 : DataW.trod enc Try.prog w 0 spare held m 2 (List.take (Try.prog.cellsOf 2) (List.drop 0 [v0, v1, v2, v3])) = [y0, y1, y2, y3][0]? := hg 0 _ rfl
    rw [c2] at t0
    obtain ⟨z0, e0, g0⟩ := (rd_int Try.underlying2) m [v0] y0 t0
    have t1 : DataW.trod enc Try.prog w 0 spare held m 23 (List.take (Try.prog.cellsOf 23) (List.drop 1 [v0, v1, v2, v3])) = [y0, y1, y2, y3][1]? := hg 1 _ rfl
    rw [c23] at t1
    obtain ⟨z1, e1, g1⟩ := (rd_slice Try.underlying23 (by kernel_rfl) (by decide) (rd_byteR Try.underlying5)) m [v1] y1 t1
    have t2 : DataW.trod enc Try.prog w 0 spare held m 32 (List.take (Try.prog.cellsOf 32) (List.drop 2 [v0, v1, v2, v3])) = [y0, y1, y2, y3][2]? := hg 2 _ rfl
    rw [c32] at t2
    obtain ⟨z2, e2, g2⟩ := (rd_slice Try.underlying32 (by kernel_rfl) (by decide) (rd_slice Try.underlying23 (by kernel_rfl) (by decide) (rd_byteR Try.underlying5))) m [v2] y2 t2
    have t3 : DataW.trod enc Try.prog w 0 spare held m 32 (List.take (Try.prog.cellsOf 32) (List.drop 3 [v0, v1, v2, v3])) = [y0, y1, y2, y3][3]? := hg 3 _ rfl
    rw [c32] at t3
    obtain ⟨z3, e3, g3⟩ := (rd_slice Try.underlying32 (by kernel_rfl) (by decide) (rd_slice Try.underlying23 (by kernel_rfl) (by decide) (rd_byteR Try.underlying5))) m [v3] y3 t3
    cases (show [v0] = [Value.int .i64 z0] from e0)
    obtain ⟨A1, d1, e1, r1⟩ := e1
    cases e1
    obtain ⟨A2, d2, e2, r2⟩ := e2
    cases e2
    obtain ⟨A3, d3, e3, r3⟩ := e3
    cases e3
    exact ⟨⟨z0, z1, z2, z3⟩, ⟨A1, d1, A2, d2, A3, d3, rfl, r1, r2, r3⟩, g0, g1, g2, g3⟩
end Go.Proofs.Ytdkdaggpfgajlaa
