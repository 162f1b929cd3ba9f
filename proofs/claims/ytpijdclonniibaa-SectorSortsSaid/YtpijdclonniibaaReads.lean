/- What the structs among the arguments say. -/
import Derived.Test.YtpijdclonniibaaGL
import Derived.Test.YtpijdclonniibaaRead
set_option linter.unusedVariables false
namespace Go.Proofs.Ytpijdclonniibaa
open Go Go.RowKit
def good_api_Sector (x : api_Sector) : Prop := (Lit.int .i64 x.Gen).wf = true ∧ (Lit.int .i64 x.Place).wf = true ∧ (Lit.int .i64 x.Parts).wf = true ∧ (Lit.int .i64 x.Kept).wf = true ∧ (x.Body.length ≤ maxLen ∧ ∀ y ∈ x.Body, (0 ≤ y ∧ y < 256))
theorem rdS_api_Sector {H : Type} {enc : TypeId × Value → H} {w : World} {spare : Nat → Bool} {held : Bool} : Rd enc Try.prog w spare held 24 k_api_Sector good_api_Sector := fun n cs x h => by
  obtain ⟨xs, m, _, _, hl, hx, hg⟩ := DataW.trod_struct Try.underlying24 h
  rw [show Try.prog.cellsOf 24 = 5 from by kernel_rfl] at hl
  have c2 : Try.prog.cellsOf 2 = 1 := by kernel_rfl
  have c3 : Try.prog.cellsOf 3 = 1 := by kernel_rfl
  have c22 : Try.prog.cellsOf 22 = 1 := by kernel_rfl
  match cs, hl, xs, hx with
  | [v0, v1, v2, v3, v4], _, [y0, y1, y2, y3, y4], _ =>
    have t0 : DataW.trod enc Try.prog w 0 spare held m 2 (List.take (Try.prog.cellsOf 2) (List.drop 0 [v0, v1, v2, v3, v4])) = [y0, y1, y2, y3, y4][0]? := hg 0 _ rfl
    rw [c2] at t0
    obtain ⟨z0, e0, g0⟩ := (rd_int Try.underlying2) m [v0] y0 t0
    have t1 : DataW.trod enc Try.prog w 0 spare held m 3 (List.take (Try.prog.cellsOf 3) (List.drop 1 [v0, v1, v2, v3, v4])) = [y0, y1, y2, y3, y4][1]? := hg 1 _ rfl
    rw [c3] at t1
    obtain ⟨z1, e1, g1⟩ := (rd_int Try.underlying3) m [v1] y1 t1
    have t2 : DataW.trod enc Try.prog w 0 spare held m 3 (List.take (Try.prog.cellsOf 3) (List.drop 2 [v0, v1, v2, v3, v4])) = [y0, y1, y2, y3, y4][2]? := hg 2 _ rfl
    rw [c3] at t2
    obtain ⟨z2, e2, g2⟩ := (rd_int Try.underlying3) m [v2] y2 t2
    have t3 : DataW.trod enc Try.prog w 0 spare held m 3 (List.take (Try.prog.cellsOf 3) (List.drop 3 [v0, v1, v2, v3, v4])) = [y0, y1, y2, y3, y4][3]? := hg 3 _ rfl
    rw [c3] at t3
    obtain ⟨z3, e3, g3⟩ := (rd_int Try.underlying3) m [v3] y3 t3
    have t4 : DataW.trod enc Try.prog w 0 spare held m 22 (List.take (Try.prog.cellsOf 22) (List.drop 4 [v0, v1, v2, v3, v4])) = [y0, y1, y2, y3, y4][4]? := hg 4 _ rfl
    rw [c22] at t4
    obtain ⟨z4, e4, g4⟩ := (rd_slice Try.underlying22 (by kernel_rfl) (by decide) (rd_byteR Try.underlying5)) m [v4] y4 t4
    cases (show [v0] = [Value.int .i64 z0] from e0)
    cases (show [v1] = [Value.int .i64 z1] from e1)
    cases (show [v2] = [Value.int .i64 z2] from e2)
    cases (show [v3] = [Value.int .i64 z3] from e3)
    obtain ⟨A4, d4, e4, r4⟩ := e4
    cases e4
    exact ⟨⟨z0, z1, z2, z3, z4⟩, ⟨A4, d4, rfl, r4⟩, g0, g1, g2, g3, g4⟩
end Go.Proofs.Ytpijdclonniibaa
