/- The row of the statement: what came in is opened, the law's own contract is called, what comes out is shut. Written by wip/gen/rowh.py. -/
import Derived.Test.YtdkdaggpfgajlaaRows
import Derived.Test.YtdkdaggpfgajlaaReads
import Derived.Test.YtdkdaggpfgajlaaGRegionLays
import Derived.Test.YtdkdaggpfgajlaaPureRegionLays
import Derived.WalkKit
import Derived.ProofKit
import Derived.OpenShut
import Derived.ShutString
import Derived.ChangeOld
import Derived.Below
import Derived.SizedLaws
import Derived.Lib.SmallJoins
import Derived.Deep.Fields
import Derived.Deep.Slices
import Derived.ChangeSame
namespace Go.Proofs.Ytdkdaggpfgajlaa.regionLays
open Go.ChangeShapes Go.WideShapes Go.ChangeAt Go.RowKit Go.Deep Go.Joins
open Go.ChangeMaps (open_string shut_string)
set_option linter.unusedVariables false
set_option linter.unusedSimpArgs false
theorem own : ownKnob Try.prog.godebug = none := by kernel_rfl
theorem laidOut : laidOutB Try.prog = true := by kernel_rfl
set_option maxRecDepth 100000 in
theorem lifted (os : Os) (started : os.Started) (H : Type) (enc : TypeId × Value → H) :
    ReturnsInHanded {} Try.checked os 7 .any (Rows.regionLaysSpec.pre6 enc Try.prog Try.f7 Rows.regionLaysRow.domain false) (Rows.regionLaysSpec.post enc Try.prog Try.f7 false true false false) := by
  refine returnsInHanded_of_change_sized (C := Try.checked) own started (by kernel_rfl) Try.func7
    (ChangeSpec.witness6 (enc := enc) (C := Try.checked) false ⟨#[], #[.int .i64 0, .int .i64 0, .int .i64 0, .int .i64 0, .slice none 0 0, .slice none 0 0, .agg #[.int .i64 0, .slice none 0 0, .slice none 0 0, .slice none 0 0], .slice none 0 0], []⟩ 8 (by kernel_rfl) (by kernel_rfl) (by kernel_rfl) (by kernel_rfl)) ?_
  intro W base args ds gs before hval0 hW hcnd hsz0 _
  have hval : ∀ (j : Nat) t v, Try.f7.params[j]? = some t → args[j]? = some v → Value.okWide Try.prog W .any base t v := hval0
  have hW' := hW
  obtain ⟨p, q, hA0, hV, rfl, hfz, hnd⟩ := hW
  have hA : DataW.TrodAll enc Try.prog W 0 (fun _ => true) true Try.f7.params.toList args.toList ds p := hA0
  rw [Try.params7] at hA hval
  obtain ⟨v0, vs0, d0, ds0, p0, q0, hargs, rfl, rfl, h0, r0⟩ := trodAll_cons hA
  obtain ⟨v1, vs1, d1, ds1, p1, q1, rfl, rfl, rfl, h1, r1⟩ := trodAll_cons r0
  obtain ⟨v2, vs2, d2, ds2, p2, q2, rfl, rfl, rfl, h2, r2⟩ := trodAll_cons r1
  obtain ⟨v3, vs3, d3, ds3, p3, q3, rfl, rfl, rfl, h3, r3⟩ := trodAll_cons r2
  obtain ⟨v4, vs4, d4, ds4, p4, q4, rfl, rfl, rfl, h4, r4⟩ := trodAll_cons r3
  obtain ⟨v5, vs5, d5, ds5, p5, q5, rfl, rfl, rfl, h5, r5⟩ := trodAll_cons r4
  obtain ⟨v6, vs6, d6, ds6, p6, q6, rfl, rfl, rfl, h6, r6⟩ := trodAll_cons r5
  obtain ⟨v7, vs7, d7, ds7, p7, q7, rfl, rfl, rfl, h7, r7⟩ := trodAll_cons r6
  obtain ⟨rfl, rfl, rfl⟩ := trodAll_nil r7
  obtain rfl : args = #[v0, v1, v2, v3, v4, v5, v6, v7] := by cases args; simp_all
  obtain ⟨rfl, rfl⟩ := trodVars_none hV
  obtain ⟨a0, rfl, rfl, rfl, w0⟩ := open_int Try.underlying3 (hval 0 3 v0 rfl rfl) h0
  obtain ⟨a1, rfl, rfl, rfl, w1⟩ := open_int Try.underlying3 (hval 1 3 v1 rfl rfl) h1
  obtain ⟨a2, rfl, rfl, rfl, w2⟩ := open_int Try.underlying3 (hval 2 3 v2 rfl rfl) h2
  obtain ⟨a3, rfl, rfl, rfl, w3⟩ := open_int Try.underlying2 (hval 3 2 v3 rfl rfl) h3
  have k4 := h4
  have lt4 : ∀ x ∈ p4, x.block < W.heap.size := by obtain ⟨m, hm⟩ := k4; exact DataW.trod_lt m _ _ _ hm
  obtain ⟨A4, len4, cap4, rfl⟩ := okWide_slice Try.underlying23 (hval 4 23 v4 rfl rfl)
  obtain ⟨fuel4, hf4⟩ := h4
  obtain ⟨a4, ⟨B4, c4, e4, R4⟩, g4⟩ := (rd_slice Try.underlying23 (by kernel_rfl) (by decide) (rd_byteR Try.underlying5)) fuel4 _ _ hf4
  have e4 : [Value.slice A4 len4 cap4] = [.slice B4 a4.length c4] := e4
  cases e4
  have k5 := h5
  have lt5 : ∀ x ∈ p5, x.block < W.heap.size := by obtain ⟨m, hm⟩ := k5; exact DataW.trod_lt m _ _ _ hm
  obtain ⟨A5, len5, cap5, rfl⟩ := okWide_slice Try.underlying32 (hval 5 32 v5 rfl rfl)
  obtain ⟨fuel5, hf5⟩ := h5
  obtain ⟨a5, ⟨B5, c5, e5, R5⟩, g5⟩ := (rd_slice Try.underlying32 (by kernel_rfl) (by decide) (rd_slice Try.underlying23 (by kernel_rfl) (by decide) (rd_byteR Try.underlying5))) fuel5 _ _ hf5
  have e5 : [Value.slice A5 len5 cap5] = [.slice B5 a5.length c5] := e5
  cases e5
  have k6 := h6
  have lt6 : ∀ x ∈ p6, x.block < W.heap.size := by obtain ⟨m, hm⟩ := k6; exact DataW.trod_lt m _ _ _ hm
  obtain ⟨⟨cs6⟩, rfl, hs6⟩ := okWide_struct Try.underlying34 (hval 6 34 v6 rfl rfl)
  obtain ⟨fuel6, hf6⟩ := h6
  obtain ⟨a6, hk6, g6⟩ := rdS_api_Region fuel6 _ _ hf6
  obtain ⟨B6_1, c6_1, B6_2, c6_2, B6_3, c6_3, e6, R6_1, R6_2, R6_3⟩ := hk6
  have e6 : cs6 = _ := e6
  subst e6
  have k7 := h7
  have lt7 : ∀ x ∈ p7, x.block < W.heap.size := by obtain ⟨m, hm⟩ := k7; exact DataW.trod_lt m _ _ _ hm
  obtain ⟨A7, len7, cap7, rfl⟩ := okWide_slice Try.underlying23 (hval 7 23 v7 rfl rfl)
  obtain ⟨fuel7, hf7⟩ := h7
  obtain ⟨a7, ⟨B7, c7, e7, R7⟩, g7⟩ := (rd_slice Try.underlying23 (by kernel_rfl) (by decide) (rd_byteR Try.underlying5)) fuel7 _ _ hf7
  have e7 : [Value.slice A7 len7 cap7] = [.slice B7 a7.length c7] := e7
  cases e7
  have HH : Hp W [rd kByte A4 cap4 a4, rd (kSlice kByte) A5 cap5 a5, rd kByte B6_1 c6_1 a6.State, rd (kSlice kByte) B6_2 c6_2 a6.Kept, rd (kSlice kByte) B6_3 c6_3 a6.More, rd kByte A7 cap7 a7] [] W := Hp.init W _ (by
    intro p hp
    simp only [List.mem_cons, List.not_mem_nil, or_false] at hp
    rcases hp with rfl | rfl | rfl | rfl | rfl | rfl
    · exact R4
    · exact R5
    · exact R6_1
    · exact R6_2
    · exact R6_3
    · exact R7)
  clear hA0 hval0 hsz0
  refine (law17_RegionLays_ok (ps := []) (fs := []) HH (pure_RegionLays a0 a1 a2 a3 a4 a5 a6 a7 w0 w1 w2 w3 g4 g5 g6 g7)).mono fun e W' hR => ?_
  obtain ⟨v, rfl, rfl, HR⟩ := hR
  have bel := HR.below
  exact ⟨_, rfl, _, _, _, [], _, [], hW', trodAll_mk1 (shut_bool Try.underlying4 _), (trodAll_cons_mk (shut_int Try.underlying3 w0) (trodAll_cons_mk (shut_int Try.underlying3 w1) (trodAll_cons_mk (shut_int Try.underlying3 w2) (trodAll_cons_mk (shut_int Try.underlying2 w3) (trodAll_cons_mk (Below.trod laidOut (by kernel_rfl) (of_decide_eq_true (by kernel_rfl)) k4 bel lt4) (trodAll_cons_mk (Below.trod laidOut (by kernel_rfl) (of_decide_eq_true (by kernel_rfl)) k5 bel lt5) (trodAll_cons_mk (Below.trod laidOut (by kernel_rfl) (of_decide_eq_true (by kernel_rfl)) k6 bel lt6) (trodAll_cons_mk (Below.trod laidOut (by kernel_rfl) (of_decide_eq_true (by kernel_rfl)) k7 bel lt7) trodAll_mk0)))))))), rfl, bel.frame _, fun h => by cases h⟩
theorem over : Rows.regionLaysRow.holds Try.pinned (OpenSpec.ofChange Rows.regionLaysSpec) :=
  OpenClaim.holds_of_wide 7 Try.f7 rfl rfl rfl rfl rfl rfl rfl ⟨rfl, rfl, rfl, rfl, rfl⟩ rfl rfl rfl rfl rfl (by kernel_rfl) Try.func7 (by kernel_rfl)
    (of_decide_eq_true (by kernel_rfl)) (by unfold Func.isWrapper; first | (rw [if_pos (by decide +kernel)]; kernel_rfl) | (rw [if_neg (by decide +kernel)]; exact ⟨rfl, rfl⟩))
    (fun os started H enc _ => lifted os started H enc)
theorem proved : Rows.RegionLaysSaid := over
#print axioms proved
end Go.Proofs.Ytdkdaggpfgajlaa.regionLays
namespace Go.Proofs.Ytdkdaggpfgajlaa
/-- The row, under a short name, for the claim. -/
theorem regionLays_holds : Rows.RegionLaysSaid := regionLays.proved
end Go.Proofs.Ytdkdaggpfgajlaa
