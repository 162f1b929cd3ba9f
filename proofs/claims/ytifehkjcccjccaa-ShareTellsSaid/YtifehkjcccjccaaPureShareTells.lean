/- What comes of any rows, any seed and either party is the reference's: for all rows that Go's memory can hold. -/
import Derived.Test.YtifehkjcccjccaaShareBase
import Derived.Test.YtifehkjcccjccaaPShx16
set_option linter.unusedSimpArgs false
namespace Go.Proofs.Ytifehkjcccjccaa.Pure
open Go Go.RowKit Go.Proofs.Ytifehkjcccjccaa.PSh Go.Proofs.YtifehkjcccjccaaW.PrintWords Go.Proofs.YtifehkjcccjccaaW.PrintLast Go.Proofs.YtifehkjcccjccaaW.PrintMore Go.Proofs.Ytifehkjcccjccaa.U64 Go.Proofs.Ytifehkjcccjccaa.ShareBase
theorem tells_rest (who : Int) {x y : List W64} (fx : fits x) (fy : fits y) : Ev (fun k => (share_Join.f k (uns x) (uns y)).bind fun t225 => ((symbolonref10_Join.f k (uns x) (uns y)).bind fun t228 => ((symbolonref01_Same.f k t225 t228).bind fun t231 => (if t231 = true then ((share_Part.f k who (uns x)).bind fun t232 => ((symbolonref10_Part.f k who (uns x)).bind fun t235 => ((symbolonref01_Same.f k t232 t235).bind fun t238 => (some t238)))) else (none))))) true := by
  refine Ev.bind (join_ev fx fy) (Ev.bind (ref_join_ev fx) (Ev.bind (same_eq rfl (fits_zw fx)) ?_))
  simp only [if_true]
  have fp : fits (prt who x) := by
    unfold prt
    split
    · exact fx
    · unfold fits at fx ⊢
      rw [List.length_replicate]
      exact fx
  exact Ev.bind (part_ev who fx) (Ev.bind (ref_part_ev who fx) (Ev.bind (same_eq rfl fp) (Ev.now _)))
theorem same_nil : Ev (fun k => symbolonref01_Same.f k ([] : List Int) []) true := by simpa using same_ev [] [] (by decide)
theorem ShareTells : symbolonlaw10_ShareTells.Pure := by
  intro a0 l1 l2 a3 w0 _ h1 w1 _ h2 w2 _
  obtain ⟨s, rfl⟩ := un_of w0
  obtain ⟨x, ex⟩ := uns_of w1
  obtain ⟨y, ey⟩ := uns_of w2
  have fx := fits_of h1 ex
  have fy := fits_of h2 ey
  subst ex ey
  apply Ev.rounds
  unfold symbolonlaw10_ShareTells.f
  obtain ⟨g, hg⟩ := great_at (uns x) (uns y)
  rw [hg]
  refine Ev.bind head_ev ?_
  simp only [Option.bind_some]
  cases g with
  | true => simp only [if_true]; exact Ev.now _
  | false =>
    simp only [Bool.false_eq_true, if_false, if_true]
    by_cases hx : x.length ≤ 4096
    · have hm := ms_length s x.length
      have hz : (zw (· - ·) x (ms s x.length)).length = x.length := by rw [zw_length, hm, Nat.min_self]
      refine Ev.bind (split_ev s hx) (Ev.bind (ref_split_ev s hx) (Ev.bind (same_eq rfl (fits_le hm hx)) ?_))
      simp only [if_true]
      refine Ev.bind (same_eq rfl (fits_le hz hx)) ?_
      simp only [if_true]
      exact tells_rest a3 fx fy
    · refine Ev.bind (split_none_ev _ (by omega)) (Ev.bind (ref_split_none_ev _ (by omega)) (Ev.bind same_nil ?_))
      simp only [if_true]
      refine Ev.bind same_nil ?_
      simp only [if_true]
      exact tells_rest a3 fx fy
end Go.Proofs.Ytifehkjcccjccaa.Pure
