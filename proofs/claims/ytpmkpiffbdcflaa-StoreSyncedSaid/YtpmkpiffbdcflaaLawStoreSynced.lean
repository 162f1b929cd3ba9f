/- The row of the statement: what came in is opened, the law's own contract is called, what comes out is shut. Written by wip/gen/rowh.py. -/
import Derived.Test.YtpmkpiffbdcflaaRows
import Derived.Test.YtpmkpiffbdcflaaReads
import Derived.Test.YtpmkpiffbdcflaaGStoreSynced
import Derived.Test.YtpmkpiffbdcflaaPureStoreSynced
import Derived.WalkKit
import Derived.ProofKit
import Derived.OpenShut
import Derived.ShutString
import Derived.ChangeOld
import Derived.Below
import Derived.SizedLaws
import Derived.Lib.SmallJoins
import Derived.Deep.Fields
import Derived.Deep.Slices
import Derived.ChangeSame
namespace Go.Proofs.Ytpmkpiffbdcflaa.storeSynced
open Go.ChangeShapes Go.WideShapes Go.ChangeAt Go.RowKit Go.Deep Go.Joins
open Go.ChangeMaps (open_string shut_string)
set_option linter.unusedVariables false
set_option linter.unusedSimpArgs false
theorem own : ownKnob Try.prog.godebug = none := by kernel_rfl
theorem laidOut : laidOutB Try.prog = true := by kernel_rfl
set_option maxRecDepth 100000 in
theorem lifted (os : Os) (started : os.Started) (H : Type) (enc : TypeId × Value → H) :
    ReturnsInHanded {} Try.checked os 7 .any (Rows.storeSyncedSpec.pre6 enc Try.prog Try.f7 Rows.storeSyncedRow.domain false) (Rows.storeSyncedSpec.post enc Try.prog Try.f7 false true false false) := by
  refine returnsInHanded_of_change_sized (C := Try.checked) own started (by kernel_rfl) Try.func7
    (ChangeSpec.witness6 (enc := enc) (C := Try.checked) false ⟨#[], #[.slice none 0 0, .slice none 0 0, .slice none 0 0, .slice none 0 0, .slice none 0 0, .int .i64 0], []⟩ 8 (by kernel_rfl) (by kernel_rfl) (by kernel_rfl) (by kernel_rfl)) ?_
  intro W base args ds gs before hval0 hW hcnd hsz0 _
  have hval : ∀ (j : Nat) t v, Try.f7.params[j]? = some t → args[j]? = some v → Value.okWide Try.prog W .any base t v := hval0
  have hW' := hW
  obtain ⟨p, q, hA0, hV, rfl, hfz, hnd⟩ := hW
  have hA : DataW.TrodAll enc Try.prog W 0 (fun _ => true) true Try.f7.params.toList args.toList ds p := hA0
  rw [Try.params7] at hA hval
  obtain ⟨v0, vs0, d0, ds0, p0, q0, hargs, rfl, rfl, h0, r0⟩ := trodAll_cons hA
  obtain ⟨v1, vs1, d1, ds1, p1, q1, rfl, rfl, rfl, h1, r1⟩ := trodAll_cons r0
  obtain ⟨v2, vs2, d2, ds2, p2, q2, rfl, rfl, rfl, h2, r2⟩ := trodAll_cons r1
  obtain ⟨v3, vs3, d3, ds3, p3, q3, rfl, rfl, rfl, h3, r3⟩ := trodAll_cons r2
  obtain ⟨v4, vs4, d4, ds4, p4, q4, rfl, rfl, rfl, h4, r4⟩ := trodAll_cons r3
  obtain ⟨v5, vs5, d5, ds5, p5, q5, rfl, rfl, rfl, h5, r5⟩ := trodAll_cons r4
  obtain ⟨rfl, rfl, rfl⟩ := trodAll_nil r5
  obtain rfl : args = #[v0, v1, v2, v3, v4, v5] := by cases args; simp_all
  obtain ⟨rfl, rfl⟩ := trodVars_none hV
  have k0 := h0
  have lt0 : ∀ x ∈ p0, x.block < W.heap.size := by obtain ⟨m, hm⟩ := k0; exact DataW.trod_lt m _ _ _ hm
  obtain ⟨A0, len0, cap0, rfl⟩ := okWide_slice Try.underlying29 (hval 0 29 v0 rfl rfl)
  obtain ⟨fuel0, hf0⟩ := h0
  obtain ⟨a0, ⟨B0, c0, e0, R0⟩, g0⟩ := (rd_slice Try.underlying29 (by kernel_rfl) (by decide) (rd_byteR Try.underlying5)) fuel0 _ _ hf0
  have e0 : [Value.slice A0 len0 cap0] = [.slice B0 a0.length c0] := e0
  cases e0
  have k1 := h1
  have lt1 : ∀ x ∈ p1, x.block < W.heap.size := by obtain ⟨m, hm⟩ := k1; exact DataW.trod_lt m _ _ _ hm
  obtain ⟨A1, len1, cap1, rfl⟩ := okWide_slice Try.underlying30 (hval 1 30 v1 rfl rfl)
  obtain ⟨fuel1, hf1⟩ := h1
  obtain ⟨a1, ⟨B1, c1, e1, R1⟩, g1⟩ := (rd_slice Try.underlying30 (by kernel_rfl) (by decide) (rd_slice Try.underlying29 (by kernel_rfl) (by decide) (rd_byteR Try.underlying5))) fuel1 _ _ hf1
  have e1 : [Value.slice A1 len1 cap1] = [.slice B1 a1.length c1] := e1
  cases e1
  have k2 := h2
  have lt2 : ∀ x ∈ p2, x.block < W.heap.size := by obtain ⟨m, hm⟩ := k2; exact DataW.trod_lt m _ _ _ hm
  obtain ⟨A2, len2, cap2, rfl⟩ := okWide_slice Try.underlying30 (hval 2 30 v2 rfl rfl)
  obtain ⟨fuel2, hf2⟩ := h2
  obtain ⟨a2, ⟨B2, c2, e2, R2⟩, g2⟩ := (rd_slice Try.underlying30 (by kernel_rfl) (by decide) (rd_slice Try.underlying29 (by kernel_rfl) (by decide) (rd_byteR Try.underlying5))) fuel2 _ _ hf2
  have e2 : [Value.slice A2 len2 cap2] = [.slice B2 a2.length c2] := e2
  cases e2
  have k3 := h3
  have lt3 : ∀ x ∈ p3, x.block < W.heap.size := by obtain ⟨m, hm⟩ := k3; exact DataW.trod_lt m _ _ _ hm
  obtain ⟨A3, len3, cap3, rfl⟩ := okWide_slice Try.underlying30 (hval 3 30 v3 rfl rfl)
  obtain ⟨fuel3, hf3⟩ := h3
  obtain ⟨a3, ⟨B3, c3, e3, R3⟩, g3⟩ := (rd_slice Try.underlying30 (by kernel_rfl) (by decide) (rd_slice Try.underlying29 (by kernel_rfl) (by decide) (rd_byteR Try.underlying5))) fuel3 _ _ hf3
  have e3 : [Value.slice A3 len3 cap3] = [.slice B3 a3.length c3] := e3
  cases e3
  have k4 := h4
  have lt4 : ∀ x ∈ p4, x.block < W.heap.size := by obtain ⟨m, hm⟩ := k4; exact DataW.trod_lt m _ _ _ hm
  obtain ⟨A4, len4, cap4, rfl⟩ := okWide_slice Try.underlying33 (hval 4 33 v4 rfl rfl)
  obtain ⟨fuel4, hf4⟩ := h4
  obtain ⟨a4, ⟨B4, c4, e4, R4⟩, g4⟩ := (rd_slice Try.underlying33 (by kernel_rfl) (by decide) (rd_bool Try.underlying4)) fuel4 _ _ hf4
  have e4 : [Value.slice A4 len4 cap4] = [.slice B4 a4.length c4] := e4
  cases e4
  obtain ⟨a5, rfl, rfl, rfl, w5⟩ := open_int Try.underlying3 (hval 5 3 v5 rfl rfl) h5
  have HH : Hp W [rd kByte A0 cap0 a0, rd (kSlice kByte) A1 cap1 a1, rd (kSlice kByte) A2 cap2 a2, rd (kSlice kByte) A3 cap3 a3, rd kBool A4 cap4 a4] [] W := Hp.init W _ (by
    intro p hp
    simp only [List.mem_cons, List.not_mem_nil, or_false] at hp
    rcases hp with rfl | rfl | rfl | rfl | rfl
    · exact R0
    · exact R1
    · exact R2
    · exact R3
    · exact R4)
  clear hA0 hval0 hsz0
  refine (law18_StoreSynced_ok (ps := []) (fs := []) HH (pure_StoreSynced a0 a1 a2 a3 a4 a5 g0 g1 g2 g3 g4 w5)).mono fun e W' hR => ?_
  obtain ⟨v, rfl, rfl, HR⟩ := hR
  have bel := HR.below
  exact ⟨_, rfl, _, _, _, [], _, [], hW', trodAll_mk1 (shut_bool Try.underlying4 _), (trodAll_cons_mk (Below.trod laidOut (by kernel_rfl) (of_decide_eq_true (by kernel_rfl)) k0 bel lt0) (trodAll_cons_mk (Below.trod laidOut (by kernel_rfl) (of_decide_eq_true (by kernel_rfl)) k1 bel lt1) (trodAll_cons_mk (Below.trod laidOut (by kernel_rfl) (of_decide_eq_true (by kernel_rfl)) k2 bel lt2) (trodAll_cons_mk (Below.trod laidOut (by kernel_rfl) (of_decide_eq_true (by kernel_rfl)) k3 bel lt3) (trodAll_cons_mk (Below.trod laidOut (by kernel_rfl) (of_decide_eq_true (by kernel_rfl)) k4 bel lt4) (trodAll_cons_mk (shut_int Try.underlying3 w5) trodAll_mk0)))))), rfl, bel.frame _, fun h => by cases h⟩
theorem over : Rows.storeSyncedRow.holds Try.pinned (OpenSpec.ofChange Rows.storeSyncedSpec) :=
  OpenClaim.holds_of_wide 7 Try.f7 rfl rfl rfl rfl rfl rfl rfl ⟨rfl, rfl, rfl, rfl, rfl⟩ rfl rfl rfl rfl rfl (by kernel_rfl) Try.func7 (by kernel_rfl)
    (of_decide_eq_true (by kernel_rfl)) (by unfold Func.isWrapper; first | (rw [if_pos (by decide +kernel)]; kernel_rfl) | (rw [if_neg (by decide +kernel)]; exact ⟨rfl, rfl⟩))
    (fun os started H enc _ => lifted os started H enc)
theorem proved : Rows.StoreSyncedSaid := over
#print axioms proved
end Go.Proofs.Ytpmkpiffbdcflaa.storeSynced
namespace Go.Proofs.Ytpmkpiffbdcflaa
/-- The row, under a short name, for the claim. -/
theorem storeSynced_holds : Rows.StoreSyncedSaid := storeSynced.proved
end Go.Proofs.Ytpmkpiffbdcflaa
