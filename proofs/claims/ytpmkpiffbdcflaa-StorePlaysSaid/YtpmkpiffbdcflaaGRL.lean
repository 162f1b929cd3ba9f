/- What the functions compute. Printed by wip/gen. -/
import Derived.Test.YtpmkpiffbdcflaaGR0
set_option linter.unusedVariables false
set_option linter.unusedSimpArgs false
set_option maxHeartbeats 4000000
set_option maxRecDepth 20000
namespace Go.Proofs.Ytpmkpiffbdcflaa
open Go Go.RowKit
def ref17_Read_b1 (a0 : ref15_Disk) (a1 : Int) (a2 : Int) (x2 : api_Sector) (x19 : List Int) (x22 : List (List Int)) : (Int × (List (List Int))) → Option (Int × (List (List Int)) ⊕ ((List (List Int)) ⊕ (api_Region × Bool)))
 | (x53, x54) => (if x53 < a2 then ((ref17_like_f a0 a1 a2 x53 x2).bind fun (x62, x63) => (if x63 = true then (if (x54.length + 1) * 24 ≤ 140737488355328 then some (.inl (IntKind.i64.wrap (x53 + 1), (x54 ++ ([x62.Body])))) else none) else some (.inr (.inr (((⟨x2.Gen, x19, x22, x54⟩ : api_Region), true)))))) else some (.inr (.inl x54)))
def ref17_Read_b0 (a0 : ref15_Disk) (a1 : Int) (a2 : Int) (x2 : api_Sector) : (Int × (List Int) × (List (List Int))) → Option (Int × (List Int) × (List (List Int)) ⊕ (((List Int) × (List (List Int))) ⊕ (api_Region × Bool)))
 | (x12, x13, x16) => (if x12 < (IntKind.i64.wrap (x2.Parts + x2.Kept)) then ((ref17_like_f a0 a1 a2 x12 x2).bind fun (x27, x28) => (((if x28 = true then (if (IntKind.i64.wrap (x12 + 1)) < x2.Parts then some ((decide ((x27.Body.length : Int) ≠ 50))) else some false) else some true) : Option (Bool)).bind fun x33 => (if x33 = true then some (.inr (.inr (((⟨0, [], [], []⟩ : api_Region), false)))) else (((if x12 < x2.Parts then (if (x13.length + x27.Body.length) * 1 ≤ 140737488355328 then some ((x13 ++ x27.Body), x16) else none) else (if (x16.length + 1) * 24 ≤ 140737488355328 then some (x13, (x16 ++ ([x27.Body]))) else none)) : Option ((List Int) × (List (List Int)))).bind fun (x38, x41) => some (.inl (IntKind.i64.wrap (x12 + 1), x38, x41)))))) else some (.inr (.inl (x13, x16))))
def ref17_Read_f (a0 : ref15_Disk) (a1 : Int) (a2 : Int) : Option (api_Region × Bool) :=
 ((ref17_sector_f a0 a1 a2 0).bind fun (x2, x3) => (if x3 = true then (if x2.Place ≠ 0 then some (((⟨0, [], [], []⟩ : api_Region), false)) else (if (IntKind.i64.wrap (x2.Parts + x2.Kept)) > a2 then some (((⟨0, [], [], []⟩ : api_Region), false)) else ((lp (ref17_Read_b0 a0 a1 a2 x2) (0, [], [])).bind fun q => match q with | .inl (x19, x22) => ((lp (ref17_Read_b1 a0 a1 a2 x2 x19 x22) (IntKind.i64.wrap (x2.Parts + x2.Kept), [])).bind fun q => match q with | .inl x57 => some (((⟨x2.Gen, x19, x22, x57⟩ : api_Region), true)) | .inr r => some r) | .inr r => some r))) else some (((⟨0, [], [], []⟩ : api_Region), false))))
theorem ref17_Read_ok {w0 w : World} {ps : List PF} {fs : List SF} {a0 : ref15_Disk} {g0_ : Nat} {a1 : Int} {a2 : Int} {r0 : api_Region} {r1 : Bool} (H : Hp w0 ps (obj_ref15_Disk g0_ a0 :: fs) w) (h : ref17_Read_f a0 a1 a2 = some (r0, r1)) :
  Calls Try.prog 61 [pt g0_, .int .i64 a1, .int .i64 a2].toArray w fun e w' => ∃ v, e = .returned v ∧ ∃ (A0_1 : Option Addr) (c0_1 : Nat) (A0_2 : Option Addr) (c0_2 : Nat) (A0_3 : Option Addr) (c0_3 : Nat), v = .tuple #[.agg #[.int .i64 r0.Gen, .slice A0_1 r0.State.length c0_1, .slice A0_2 r0.Kept.length c0_2, .slice A0_3 r0.More.length c0_3], .bool r1] ∧ Hp w0 (rd kByte A0_1 c0_1 r0.State :: rd (kSlice kByte) A0_2 c0_2 r0.Kept :: rd (kSlice kByte) A0_3 c0_3 r0.More :: ps) (obj_ref15_Disk g0_ a0 :: fs) w' := by
 refine enter [pt g0_, .int .i64 a1, .int .i64 a2] 125 Try.func61 fun Q a NP RET NRM F => ?_
 replace NP := np NP
 unfold ref17_Read_f at h
 refine rg ?_
 refine ls (lal F H ti32 (cs := [.int .i64 0, .slice none 0 0, .slice none 0 0, .slice none 0 0]) rfl fun g1 w a H F => ?_)
 refine as_ F (v := .bool false) rfl fun a F => ?_
 refine rgend ?_
 refine rg ?_
 iterate 3 refine mv F rfl fun a F => ?_
 obtain ⟨⟨x2, x3⟩, e4, h⟩ := Option.bind_eq_some_iff.1 h
 try dsimp only at h
 refine ls (call F Try.func84 (ref17_sector_ok (H.f1) e4) rfl rfl fun v w hR a F => ?_)
 obtain ⟨A5, c6, rfl, H⟩ := hR
 refine mv F rfl fun a F => ?_
 iterate 2 refine qw F (r_ex (F.t 17 rfl) rfl) fun a F => ?_
 refine ls (lal F H ti53 (cs := [.int .i64 0, .int .i64 0, .int .i64 0, .int .i64 0, .slice none 0 0]) rfl fun g7 w a H F => ?_)
 refine stF F [.int .i64 x2.Gen, .int .i64 x2.Place, .int .i64 x2.Parts, .int .i64 x2.Kept, .slice A5 x2.Body.length c6] H rfl rfl sz53 fun w a H F => ?_
 refine as_ F rfl fun a F => ?_
 refine rgend ?_
 replace F := F.only [9, 8, 6, 0, 1, 2] (l' := [(9, _), (8, _), (6, _), (0, _), (1, _), (2, _)]) rfl
 refine wp_seq ?_
 refine rg ?_
 refine mv F rfl fun a F => ?_
 refine qw F (r_not (F.t 24 rfl)) fun a F => ?_
 refine mv F rfl fun a F => ?_
 by_cases c8 : x3 = true
 ·rw [if_pos c8] at h
  rw [c8] at F
  refine qw F (r_fa (off := 1) (F.t 8 rfl) fa53_1) fun a F => ?_
  refine qw F (r_ld (F.t 27 rfl) (cel_cell (o := 1) (H.cell 0 rfl) rfl) one3) fun a F => ?_
  refine qw F (r_ne (F.t 28 rfl) (F.k (.int .i64 0))) fun a F => ?_
  refine qw F (r_pickF (F.t 26 rfl) (F.t 29 rfl)) fun a F => ?_
  refine mv F rfl fun a F => ?_
  by_cases c9 : x2.Place ≠ 0
  ·rw [if_pos c9] at h
   rw [decide_eq_true c9] at F
   iterate 7 refine of_ F fun a F => ?_
   refine qw F (r_pickT (F.t 31 rfl) (F.k (.bool true))) fun a F => ?_
   refine rgend ?_
   replace F := F.only [39, 8, 6, 0, 1, 2] (l' := [(39, _), (8, _), (6, _), (0, _), (1, _), (2, _)]) rfl
   refine wp_cond_true (F.ev rfl) ?_
   refine rg ?_
   refine ls (lbd F (vs := []) (cs := [.int .i64 0, .slice none 0 0, .slice none 0 0, .slice none 0 0]) rfl (fun w => by kernel_rfl) fun a F => ?_)
   refine stF F [.int .i64 0, .slice none 0 0, .slice none 0 0, .slice none 0 0] H.f1.f1.f2 rfl rfl sz32 fun w a H F => ?_
   refine as_ F (v := .bool false) rfl fun a F => ?_
   refine rgend ?_
   replace F := F.only [7, 6] (l' := [(7, _), (6, _)]) rfl
   refine wp_ret ?_
   replace H := H.nilRd kByte
   replace H := H.nilRd (kSlice kByte)
   try dsimp only at h
   obtain ⟨rfl, rfl⟩ := Prod.mk.inj (Option.some.inj h)
   exact RET _ _ (retC2 F rfl rfl rfl (ldvA (cel_range (o := 0) (n := 4) (vs := [.int .i64 0, .slice none 0 0, .slice none 0 0, .slice none 0 0]) (H.cell 0 rfl) rfl) agg32 rfl) ⟨_, rfl, none, 0, none, 0, none, 0, rfl, H.p0.p1.p3.px3.px3.px3.fx1.fx0⟩)
  rw [if_neg c9] at h
  rw [decide_eq_false c9] at F
  refine qw F (r_fa (off := 2) (F.t 8 rfl) fa53_2) fun a F => ?_
  refine qw F (r_ld (F.t 32 rfl) (cel_cell (o := 2) (H.cell 0 rfl) rfl) one3) fun a F => ?_
  refine qw F (r_fa (off := 3) (F.t 8 rfl) fa53_3) fun a F => ?_
  refine qw F (r_ld (F.t 34 rfl) (cel_cell (o := 3) (H.cell 0 rfl) rfl) one3) fun a F => ?_
  refine qw F (r_add (F.t 33 rfl) (F.t 35 rfl)) fun a F => ?_
  refine mv F rfl fun a F => ?_
  refine qw F (r_gt (F.t 36 rfl) (F.t 37 rfl)) fun a F => ?_
  refine qw F (r_pickF (F.t 31 rfl) (F.t 38 rfl)) fun a F => ?_
  refine rgend ?_
  replace F := F.only [39, 8, 6, 0, 1, 2] (l' := [(39, _), (8, _), (6, _), (0, _), (1, _), (2, _)]) rfl
  by_cases c10 : (IntKind.i64.wrap (x2.Parts + x2.Kept)) > a2
  ·rw [if_pos c10] at h
   rw [decide_eq_true c10] at F
   refine wp_cond_true (F.ev rfl) ?_
   refine rg ?_
   refine ls (lbd F (vs := []) (cs := [.int .i64 0, .slice none 0 0, .slice none 0 0, .slice none 0 0]) rfl (fun w => by kernel_rfl) fun a F => ?_)
   refine stF F [.int .i64 0, .slice none 0 0, .slice none 0 0, .slice none 0 0] H.f1.f1.f2 rfl rfl sz32 fun w a H F => ?_
   refine as_ F (v := .bool false) rfl fun a F => ?_
   refine rgend ?_
   replace F := F.only [7, 6] (l' := [(7, _), (6, _)]) rfl
   refine wp_ret ?_
   replace H := H.nilRd kByte
   replace H := H.nilRd (kSlice kByte)
   try dsimp only at h
   obtain ⟨rfl, rfl⟩ := Prod.mk.inj (Option.some.inj h)
   exact RET _ _ (retC2 F rfl rfl rfl (ldvA (cel_range (o := 0) (n := 4) (vs := [.int .i64 0, .slice none 0 0, .slice none 0 0, .slice none 0 0]) (H.cell 0 rfl) rfl) agg32 rfl) ⟨_, rfl, none, 0, none, 0, none, 0, rfl, H.p0.p1.p3.px3.px3.px3.fx1.fx0⟩)
  rw [if_neg c10] at h
  rw [decide_eq_false c10] at F
  refine wp_cond_false (F.ev rfl) ?_
  refine wp_skip ?_
  refine rg ?_
  refine qw F (r_fa (off := 0) (F.t 8 rfl) fa53_0) fun a F => ?_
  refine qw F (r_ld (F.t 41 rfl) (cel_cell (o := 0) (H.cell 0 rfl) rfl) one2) fun a F => ?_
  refine ls (lbd F (vs := [(0, .int .i64 x2.Gen)]) (cs := [.int .i64 x2.Gen, .slice none 0 0, .slice none 0 0, .slice none 0 0]) rfl (fun w => by kernel_rfl) fun a F => ?_)
  refine ls (lal F H ti32 (cs := [.int .i64 0, .slice none 0 0, .slice none 0 0, .slice none 0 0]) rfl fun g11 w a H F => ?_)
  refine stF F [.int .i64 x2.Gen, .slice none 0 0, .slice none 0 0, .slice none 0 0] H rfl rfl sz32 fun w a H F => ?_
  refine rgend ?_
  replace F := F.only [10, 8, 6, 0, 1, 2] (l' := [(10, _), (8, _), (6, _), (0, _), (1, _), (2, _)]) rfl
  refine wp_seq ?_
  refine rg ?_
  refine as_ F (v := .int .i64 0) rfl fun a F => ?_
  refine rgend ?_
  replace H := H.nilOwn kByte 5
  replace H := H.nilOwn (kSlice kByte) 29
  obtain ⟨o_24, k_24, h⟩ := Option.bind_eq_some_iff.1 h
  refine cut (fun a w => ∃ (x19 : List Int) (x22 : List (List Int)), Sum.inl (x19, x22) = o_24 ∧ ∃ (A20 : Option Addr) (c21 : Nat) (A23 : Option Addr) (c24 : Nat), Fr 125 [] [(0, pt g0_), (1, .int .i64 a1), (2, .int .i64 a2), (6, pt g1), (8, pt g7), (10, pt g11)] a ∧ Hp w0 (rd kByte A5 c6 x2.Body :: ps) (own kByte 5 A20 c21 x19 :: own (kSlice kByte) 29 A23 c24 x22 :: cel g11 [.int .i64 x2.Gen, .slice A20 x19.length c21, .slice A23 x22.length c24, .slice none 0 0] 32 :: obj_ref15_Disk g0_ a0 :: cel g1 [.int .i64 0, .slice none 0 0, .slice none 0 0, .slice none 0 0] 32 :: cel g7 [.int .i64 x2.Gen, .int .i64 x2.Place, .int .i64 x2.Parts, .int .i64 x2.Kept, .slice A5 x2.Body.length c6] 53 :: fs) w) (wp_block ?_) ?_
  ·refine wloop (ref17_Read_b0 a0 a1 a2 x2) (fun (s : Int × (List Int) × (List (List Int))) a w => ∃ (A14 : Option Addr) (c15 : Nat) (A17 : Option Addr) (c18 : Nat), Fr 125 [] [(0, pt g0_), (1, .int .i64 a1), (2, .int .i64 a2), (6, pt g1), (8, pt g7), (10, pt g11), (11, .int .i64 s.1)] a ∧ Hp w0 (rd kByte A5 c6 x2.Body :: ps) (own kByte 5 A14 c15 s.2.1 :: own (kSlice kByte) 29 A17 c18 s.2.2 :: cel g11 [.int .i64 x2.Gen, .slice A14 s.2.1.length c15, .slice A17 s.2.2.length c18, .slice none 0 0] 32 :: obj_ref15_Disk g0_ a0 :: cel g1 [.int .i64 0, .slice none 0 0, .slice none 0 0, .slice none 0 0] 32 :: cel g7 [.int .i64 x2.Gen, .int .i64 x2.Place, .int .i64 x2.Parts, .int .i64 x2.Kept, .slice A5 x2.Body.length c6] 53 :: fs) w) k_24 ⟨none, 0, none, 0, F.only [0, 1, 2, 6, 8, 10, 11] rfl, H.f3.f5.f5.f5.f4.f5⟩ ?_
   rintro ⟨x12, x13, x16⟩ a w q_24 j_24 u_24 ⟨A14, c15, A17, c18, F, H⟩
   unfold ref17_Read_b0 at j_24
   try dsimp only at j_24 F H
   refine wp_seq ?_
   refine rg ?_
   refine mv F rfl fun a F => ?_
   refine qw F (r_fa (off := 2) (F.t 8 rfl) fa53_2) fun a F => ?_
   refine qw F (r_ld (F.t 45 rfl) (cel_cell (o := 2) (H.cell 5 rfl) rfl) one3) fun a F => ?_
   refine qw F (r_fa (off := 3) (F.t 8 rfl) fa53_3) fun a F => ?_
   refine qw F (r_ld (F.t 47 rfl) (cel_cell (o := 3) (H.cell 5 rfl) rfl) one3) fun a F => ?_
   refine qw F (r_add (F.t 46 rfl) (F.t 48 rfl)) fun a F => ?_
   refine qw F (r_lt (F.t 44 rfl) (F.t 49 rfl)) fun a F => ?_
   refine rgend ?_
   replace F := F.only [50, 0, 1, 2, 6, 8, 10, 11] (l' := [(50, _), (0, _), (1, _), (2, _), (6, _), (8, _), (10, _), (11, _)]) rfl
   by_cases c26 : x12 < (IntKind.i64.wrap (x2.Parts + x2.Kept))
   ·rw [if_pos c26] at j_24
    rw [decide_eq_true c26] at F
    refine wp_cond_true (F.ev rfl) ?_
    refine wp_skip ?_
    refine wp_seq ?_
    refine wp_block ?_
    refine rg ?_
    iterate 4 refine mv F rfl fun a F => ?_
    refine qw F (r_ldA (F.t 8 rfl) (cel_range (o := 0) (n := 5) (vs := [.int .i64 x2.Gen, .int .i64 x2.Place, .int .i64 x2.Parts, .int .i64 x2.Kept, .slice A5 x2.Body.length c6]) (H.cell 5 rfl) rfl) agg53 rfl) fun a F => ?_
    obtain ⟨⟨x27, x28⟩, e29, j_24⟩ := Option.bind_eq_some_iff.1 j_24
    try dsimp only at j_24
    refine ls (call F Try.func85 (ref17_like_ok (a4 := x2) (H.p0.f5.f5.f4.f4.f4.f5) e29) rfl rfl fun v w hR a F => ?_)
    obtain ⟨A30, c31, rfl, H⟩ := hR
    refine mv F rfl fun a F => ?_
    iterate 2 refine qw F (r_ex (F.t 53 rfl) rfl) fun a F => ?_
    refine ls (lal F H ti53 (cs := [.int .i64 0, .int .i64 0, .int .i64 0, .int .i64 0, .slice none 0 0]) rfl fun g32 w a H F => ?_)
    refine stF F [.int .i64 x27.Gen, .int .i64 x27.Place, .int .i64 x27.Parts, .int .i64 x27.Kept, .slice A30 x27.Body.length c31] H rfl rfl sz53 fun w a H F => ?_
    refine as_ F rfl fun a F => ?_
    refine rgend ?_
    replace F := F.only [13, 12, 0, 1, 2, 6, 8, 10, 11] (l' := [(13, _), (12, _), (0, _), (1, _), (2, _), (6, _), (8, _), (10, _), (11, _)]) rfl
    iterate 2 refine wp_seq ?_
    obtain ⟨o_33, k_33, j_24⟩ := Option.bind_eq_some_iff.1 j_24
    refine cut (fun a w => ∃ (x33 : Bool), x33 = o_33 ∧ Fr 125 [] [(0, pt g0_), (1, .int .i64 a1), (2, .int .i64 a2), (6, pt g1), (8, pt g7), (10, pt g11), (11, .int .i64 x12), (12, pt g32), (76, .bool x33)] a ∧ Hp w0 (rd kByte A30 c31 x27.Body :: rd kByte A5 c6 x2.Body :: ps) (own kByte 5 A14 c15 x13 :: own (kSlice kByte) 29 A17 c18 x16 :: cel g11 [.int .i64 x2.Gen, .slice A14 x13.length c15, .slice A17 x16.length c18, .slice none 0 0] 32 :: obj_ref15_Disk g0_ a0 :: cel g32 [.int .i64 x27.Gen, .int .i64 x27.Place, .int .i64 x27.Parts, .int .i64 x27.Kept, .slice A30 x27.Body.length c31] 53 :: cel g1 [.int .i64 0, .slice none 0 0, .slice none 0 0, .slice none 0 0] 32 :: cel g7 [.int .i64 x2.Gen, .int .i64 x2.Place, .int .i64 x2.Parts, .int .i64 x2.Kept, .slice A5 x2.Body.length c6] 53 :: fs) w) ?_ ?_
    ·skip
     refine wp_region_lit ?_
     refine mv F rfl fun a F => ?_
     refine qw F (r_not (F.t 62 rfl)) fun a F => ?_
     refine mv F rfl fun a F => ?_
     by_cases c35 : x28 = true
     ·rw [if_pos c35] at k_33
      rw [c35] at F
      refine mv F rfl fun a F => ?_
      refine qw F (r_add (F.t 65 rfl) (F.k (.int .i64 1))) fun a F => ?_
      refine qw F (r_fa (off := 2) (F.t 8 rfl) fa53_2) fun a F => ?_
      refine qw F (r_ld (F.t 67 rfl) (cel_cell (o := 2) (H.cell 6 rfl) rfl) one3) fun a F => ?_
      refine qw F (r_lt (F.t 66 rfl) (F.t 68 rfl)) fun a F => ?_
      refine mv F rfl fun a F => ?_
      by_cases c36 : (IntKind.i64.wrap (x12 + 1)) < x2.Parts
      ·rw [if_pos c36] at k_33
       rw [decide_eq_true c36] at F
       refine qw F (r_fa (off := 4) (F.t 12 rfl) fa53_4) fun a F => ?_
       refine qw F (r_ld (F.t 71 rfl) (cel_cell (o := 4) (H.cell 0 rfl) rfl) one29) fun a F => ?_
       refine qw F (r_len (F.t 72 rfl) Try.underlying29) fun a F => ?_
       refine qw F (r_ne (F.t 73 rfl) (F.k (.int .i64 50))) fun a F => ?_
       refine qw F (r_pickT (F.t 70 rfl) (F.t 74 rfl)) fun a F => ?_
       refine qw F (r_pickF (F.t 64 rfl) (F.t 75 rfl)) fun a F => ?_
       refine wpList_nil ?_
       replace F := F.only [76, 12, 0, 1, 2, 6, 8, 10, 11] (l' := [(76, _), (12, _), (0, _), (1, _), (2, _), (6, _), (8, _), (10, _), (11, _)]) rfl
       try dsimp only at k_33
       obtain rfl := Option.some.inj k_33
       exact ⟨_, rfl, F.only [0, 1, 2, 6, 8, 10, 11, 12, 76] rfl, H.f6.f6.f2.f3.f6.f6.f6⟩
      rw [if_neg c36] at k_33
      rw [decide_eq_false c36] at F
      iterate 4 refine of_ F fun a F => ?_
      refine qw F (r_pickF (F.t 70 rfl) (F.k (.bool false))) fun a F => ?_
      refine qw F (r_pickF (F.t 64 rfl) (F.t 75 rfl)) fun a F => ?_
      refine wpList_nil ?_
      replace F := F.only [76, 12, 0, 1, 2, 6, 8, 10, 11] (l' := [(76, _), (12, _), (0, _), (1, _), (2, _), (6, _), (8, _), (10, _), (11, _)]) rfl
      try dsimp only at k_33
      obtain rfl := Option.some.inj k_33
      exact ⟨_, rfl, F.only [0, 1, 2, 6, 8, 10, 11, 12, 76] rfl, H.f6.f6.f2.f3.f6.f6.f6⟩
     rw [if_neg c35] at k_33
     rw [Bool.eq_false_iff.2 c35] at F
     iterate 11 refine of_ F fun a F => ?_
     refine qw F (r_pickT (F.t 64 rfl) (F.k (.bool true))) fun a F => ?_
     refine wpList_nil ?_
     replace F := F.only [76, 12, 0, 1, 2, 6, 8, 10, 11] (l' := [(76, _), (12, _), (0, _), (1, _), (2, _), (6, _), (8, _), (10, _), (11, _)]) rfl
     try dsimp only at k_33
     obtain rfl := Option.some.inj k_33
     exact ⟨_, rfl, F.only [0, 1, 2, 6, 8, 10, 11, 12, 76] rfl, H.f6.f6.f2.f3.f6.f6.f6⟩
    rintro a w ⟨x33, rfl, F, H⟩
    try dsimp only at j_24 F H
    by_cases c37 : x33 = true
    ·rw [if_pos c37] at j_24
     rw [c37] at F
     refine wp_cond_true (F.ev rfl) ?_
     refine rg ?_
     refine ls (lbd F (vs := []) (cs := [.int .i64 0, .slice none 0 0, .slice none 0 0, .slice none 0 0]) rfl (fun w => by kernel_rfl) fun a F => ?_)
     refine stF F [.int .i64 0, .slice none 0 0, .slice none 0 0, .slice none 0 0] H.f6.f5.f5.f5.f5.f5.f6 rfl rfl sz32 fun w a H F => ?_
     refine as_ F (v := .bool false) rfl fun a F => ?_
     refine rgend ?_
     replace F := F.only [7, 6] (l' := [(7, _), (6, _)]) rfl
     refine wp_ret ?_
     replace H := H.nilRd kByte
     replace H := H.nilRd (kSlice kByte)
     try dsimp only at j_24
     obtain rfl := Option.some.inj j_24
     obtain rfl := u_24 _ rfl
     try dsimp only at h
     obtain ⟨rfl, rfl⟩ := Prod.mk.inj (Option.some.inj h)
     exact RET _ _ (retC2 F rfl rfl rfl (ldvA (cel_range (o := 0) (n := 4) (vs := [.int .i64 0, .slice none 0 0, .slice none 0 0, .slice none 0 0]) (H.cell 0 rfl) rfl) agg32 rfl) ⟨_, rfl, none, 0, none, 0, none, 0, rfl, H.p0.p1.p3.px3.px3.px3.px3.fx6.fx5.fx3.fx2.fx1.fx0⟩)
    rw [if_neg c37] at j_24
    rw [Bool.eq_false_iff.2 c37] at F
    refine wp_cond_false (F.ev rfl) ?_
    refine wp_skip ?_
    refine rg ?_
    refine mv F rfl fun a F => ?_
    refine qw F (r_fa (off := 2) (F.t 8 rfl) fa53_2) fun a F => ?_
    refine qw F (r_ld (F.t 79 rfl) (cel_cell (o := 2) (H.cell 6 rfl) rfl) one3) fun a F => ?_
    refine qw F (r_lt (F.t 78 rfl) (F.t 80 rfl)) fun a F => ?_
    refine rgend ?_
    replace F := F.only [81, 0, 1, 2, 6, 8, 10, 11, 12] (l' := [(81, _), (0, _), (1, _), (2, _), (6, _), (8, _), (10, _), (11, _), (12, _)]) rfl
    obtain ⟨o_43, k_43, j_24⟩ := Option.bind_eq_some_iff.1 j_24
    refine cut (fun a w => ∃ (x38 : List Int) (x41 : List (List Int)), (x38, x41) = o_43 ∧ ∃ (A39 : Option Addr) (c40 : Nat) (A42 : Option Addr) (c43 : Nat), Fr 125 [] [(0, pt g0_), (1, .int .i64 a1), (2, .int .i64 a2), (6, pt g1), (8, pt g7), (10, pt g11), (11, .int .i64 x12)] a ∧ Hp w0 (rd kByte A5 c6 x2.Body :: ps) (own kByte 5 A39 c40 x38 :: own (kSlice kByte) 29 A42 c43 x41 :: cel g11 [.int .i64 x2.Gen, .slice A39 x38.length c40, .slice A42 x41.length c43, .slice none 0 0] 32 :: obj_ref15_Disk g0_ a0 :: cel g1 [.int .i64 0, .slice none 0 0, .slice none 0 0, .slice none 0 0] 32 :: cel g7 [.int .i64 x2.Gen, .int .i64 x2.Place, .int .i64 x2.Parts, .int .i64 x2.Kept, .slice A5 x2.Body.length c6] 53 :: fs) w) ?_ ?_
    ·skip
     by_cases c45 : x12 < x2.Parts
     ·rw [if_pos c45] at k_43
      rw [decide_eq_true c45] at F
      refine wp_cond_true (F.ev rfl) ?_
      refine wp_region_lit ?_
      refine qw F (r_fa (off := 1) (F.t 10 rfl) fa32_1) fun a F => ?_
      refine qw F (r_ld (F.t 82 rfl) (cel_cell (o := 1) (H.cell 2 rfl) rfl) one29) fun a F => ?_
      refine qw F (r_fa (off := 4) (F.t 12 rfl) fa53_4) fun a F => ?_
      refine qw F (r_ld (F.t 84 rfl) (cel_cell (o := 4) (H.cell 4 rfl) rfl) one29) fun a F => ?_
      obtain ⟨c46, k_43⟩ := guardO k_43
      obtain ⟨A47, c48, _, hr, H⟩ := Hp.appendRd (kd := kByte) (xs := x13) (ys := x27.Body) (H) 0 rfl (F.t 83 rfl) (F.t 85 rfl) Try.underlying29 ti5 rfl (by decide) (by decide) c46
      refine qw F (hr _ _ _ _ _) fun a F => ?_
      refine qw F (r_fa (off := 1) (F.t 10 rfl) fa32_1) fun a F => ?_
      refine sto F [.slice A47 (x13 ++ x27.Body).length c48] [.int .i64 x2.Gen, .slice A47 (x13 ++ x27.Body).length c48, .slice A17 x16.length c18, .slice none 0 0] H.f6.f6.f6.f6.f5.f5.f6 rfl rfl sz29 fun w a H F => ?_
      refine wpList_nil ?_
      replace F := F.only [0, 1, 2, 6, 8, 10, 11] (l' := [(0, _), (1, _), (2, _), (6, _), (8, _), (10, _), (11, _)]) rfl
      try dsimp only at k_43
      obtain rfl := Option.some.inj k_43
      exact ⟨_, _, rfl, A47, c48, A17, c18, F.only [0, 1, 2, 6, 8, 10, 11] rfl, H.px0.f6.f6.f5.f3.f5.f5.fx6⟩
     rw [if_neg c45] at k_43
     rw [decide_eq_false c45] at F
     refine wp_cond_false (F.ev rfl) ?_
     refine wp_region_lit ?_
     refine qw F (r_fa (off := 2) (F.t 10 rfl) fa32_2) fun a F => ?_
     refine qw F (r_ld (F.t 88 rfl) (cel_cell (o := 2) (H.cell 2 rfl) rfl) one30) fun a F => ?_
     refine qw F (r_fa (off := 4) (F.t 12 rfl) fa53_4) fun a F => ?_
     refine qw F (r_ld (F.t 90 rfl) (cel_cell (o := 4) (H.cell 4 rfl) rfl) one29) fun a F => ?_
     refine ls (lbs F H (e := 29) (vs := [(0, .slice A30 x27.Body.length c31)]) (cs := [.slice A30 x27.Body.length c31]) rfl (fun w => by kernel_rfl) fun g49 w a H F => ?_)
     obtain ⟨c50, k_43⟩ := guardO k_43
     obtain ⟨A51, c52, _, hr, H⟩ := Hp.appendCelL (kd := (kSlice kByte)) (xs := x16) (ys := [x27.Body]) (H.f7.f7.f7.f7.f7.f6.f6.f7) (F.t 89 rfl) (F.t 92 rfl) Try.underlying30 ti29 rfl (by decide) (by decide) rfl ((SayL.cons (kd := (kSlice kByte)) (c1 := [.slice A30 x27.Body.length c31]) (y := x27.Body) (fun Z hp => ⟨A30, c31, rfl, pat hp 0 rfl⟩) SayL.nil)) c50
     refine qw F (hr _ _ _ _ _) fun a F => ?_
     refine qw F (r_fa (off := 2) (F.t 10 rfl) fa32_2) fun a F => ?_
     refine sto F [.slice A51 ((x16 ++ ([x27.Body]))).length c52] [.int .i64 x2.Gen, .slice A14 x13.length c15, .slice A51 ((x16 ++ ([x27.Body]))).length c52, .slice none 0 0] H.f6.f6.f6.f6.f5.f5.f6 rfl rfl sz30 fun w a H F => ?_
     refine wpList_nil ?_
     replace F := F.only [0, 1, 2, 6, 8, 10, 11] (l' := [(0, _), (1, _), (2, _), (6, _), (8, _), (10, _), (11, _)]) rfl
     try dsimp only at k_43
     obtain rfl := Option.some.inj k_43
     exact ⟨_, _, rfl, A14, c15, A51, c52, F.only [0, 1, 2, 6, 8, 10, 11] rfl, H.px0.f6.f6.f5.f3.f4.f5.fx6⟩
    rintro a w ⟨x38, x41, rfl, A39, c40, A42, c43, F, H⟩
    try dsimp only at j_24 F H
    refine wp_region_lit ?_
    refine mv F rfl fun a F => ?_
    refine qw F (r_add (F.t 51 rfl) (F.k (.int .i64 1))) fun a F => ?_
    refine as_ F rfl fun a F => ?_
    refine wpList_nil ?_
    try dsimp only at j_24
    obtain rfl := Option.some.inj j_24
    exact ⟨_, rfl, A39, c40, A42, c43, F.only [0, 1, 2, 6, 8, 10, 11] rfl, H⟩
   rw [if_neg c26] at j_24
   rw [decide_eq_false c26] at F
   refine wp_cond_false (F.ev rfl) ?_
   refine wp_exit ?_
   try dsimp only at j_24
   obtain rfl := Option.some.inj j_24
   obtain rfl := u_24 _ rfl
   repeat (with_reducible refine exT ?_)
   with_reducible refine exB ?_
   exact ⟨_, _, rfl, A14, c15, A17, c18, F.only [0, 1, 2, 6, 8, 10] rfl, H⟩
  rintro a w ⟨x19, x22, rfl, A20, c21, A23, c24, F, H⟩
  try dsimp only at h F H
  refine wp_seq ?_
  refine rg ?_
  refine qw F (r_fa (off := 2) (F.t 8 rfl) fa53_2) fun a F => ?_
  refine qw F (r_ld (F.t 95 rfl) (cel_cell (o := 2) (H.cell 5 rfl) rfl) one3) fun a F => ?_
  refine qw F (r_fa (off := 3) (F.t 8 rfl) fa53_3) fun a F => ?_
  refine qw F (r_ld (F.t 97 rfl) (cel_cell (o := 3) (H.cell 5 rfl) rfl) one3) fun a F => ?_
  refine qw F (r_add (F.t 96 rfl) (F.t 98 rfl)) fun a F => ?_
  refine as_ F rfl fun a F => ?_
  refine rgend ?_
  replace F := F.only [14, 0, 1, 2, 6, 8, 10] (l' := [(14, _), (0, _), (1, _), (2, _), (6, _), (8, _), (10, _)]) rfl
  replace H := H.nilOwn (kSlice kByte) 29
  obtain ⟨o_59, k_59, h⟩ := Option.bind_eq_some_iff.1 h
  refine cut (fun a w => ∃ (x57 : List (List Int)), Sum.inl x57 = o_59 ∧ ∃ (A58 : Option Addr) (c59 : Nat), Fr 125 [] [(6, pt g1), (10, pt g11)] a ∧ Hp w0 ps (own (kSlice kByte) 29 A58 c59 x57 :: own kByte 5 A20 c21 x19 :: own (kSlice kByte) 29 A23 c24 x22 :: cel g11 [.int .i64 x2.Gen, .slice A20 x19.length c21, .slice A23 x22.length c24, .slice A58 x57.length c59] 32 :: obj_ref15_Disk g0_ a0 :: cel g1 [.int .i64 0, .slice none 0 0, .slice none 0 0, .slice none 0 0] 32 :: fs) w) (wp_block ?_) ?_
  ·refine wloop (ref17_Read_b1 a0 a1 a2 x2 x19 x22) (fun (s : Int × (List (List Int))) a w => ∃ (A55 : Option Addr) (c56 : Nat), Fr 125 [] [(0, pt g0_), (1, .int .i64 a1), (2, .int .i64 a2), (6, pt g1), (8, pt g7), (10, pt g11), (14, .int .i64 s.1)] a ∧ Hp w0 (rd kByte A5 c6 x2.Body :: ps) (own (kSlice kByte) 29 A55 c56 s.2 :: own kByte 5 A20 c21 x19 :: own (kSlice kByte) 29 A23 c24 x22 :: cel g11 [.int .i64 x2.Gen, .slice A20 x19.length c21, .slice A23 x22.length c24, .slice A55 s.2.length c56] 32 :: obj_ref15_Disk g0_ a0 :: cel g1 [.int .i64 0, .slice none 0 0, .slice none 0 0, .slice none 0 0] 32 :: cel g7 [.int .i64 x2.Gen, .int .i64 x2.Place, .int .i64 x2.Parts, .int .i64 x2.Kept, .slice A5 x2.Body.length c6] 53 :: fs) w) k_59 ⟨none, 0, F.only [0, 1, 2, 6, 8, 10, 14] rfl, H⟩ ?_
   rintro ⟨x53, x54⟩ a w q_59 j_59 u_59 ⟨A55, c56, F, H⟩
   unfold ref17_Read_b1 at j_59
   try dsimp only at j_59 F H
   refine wp_seq ?_
   refine rg ?_
   iterate 2 refine mv F rfl fun a F => ?_
   refine qw F (r_lt (F.t 100 rfl) (F.t 101 rfl)) fun a F => ?_
   refine rgend ?_
   by_cases c61 : x53 < a2
   ·rw [if_pos c61] at j_59
    rw [decide_eq_true c61] at F
    refine wp_cond_true (F.ev rfl) ?_
    refine wp_skip ?_
    refine wp_seq ?_
    refine wp_block ?_
    refine rg ?_
    iterate 4 refine mv F rfl fun a F => ?_
    refine qw F (r_ldA (F.t 8 rfl) (cel_range (o := 0) (n := 5) (vs := [.int .i64 x2.Gen, .int .i64 x2.Place, .int .i64 x2.Parts, .int .i64 x2.Kept, .slice A5 x2.Body.length c6]) (H.cell 6 rfl) rfl) agg53 rfl) fun a F => ?_
    obtain ⟨⟨x62, x63⟩, e64, j_59⟩ := Option.bind_eq_some_iff.1 j_59
    try dsimp only at j_59
    refine ls (call F Try.func85 (ref17_like_ok (a4 := x2) (H.p0.f6.f6.f5.f5.f5.f5.f6) e64) rfl rfl fun v w hR a F => ?_)
    obtain ⟨A65, c66, rfl, H⟩ := hR
    refine mv F rfl fun a F => ?_
    iterate 2 refine qw F (r_ex (F.t 105 rfl) rfl) fun a F => ?_
    refine ls (lal F H ti53 (cs := [.int .i64 0, .int .i64 0, .int .i64 0, .int .i64 0, .slice none 0 0]) rfl fun g67 w a H F => ?_)
    refine stF F [.int .i64 x62.Gen, .int .i64 x62.Place, .int .i64 x62.Parts, .int .i64 x62.Kept, .slice A65 x62.Body.length c66] H rfl rfl sz53 fun w a H F => ?_
    refine as_ F rfl fun a F => ?_
    refine rgend ?_
    replace F := F.only [16, 15, 0, 1, 2, 6, 8, 10, 14] (l' := [(16, _), (15, _), (0, _), (1, _), (2, _), (6, _), (8, _), (10, _), (14, _)]) rfl
    refine wp_seq ?_
    refine rg ?_
    refine mv F rfl fun a F => ?_
    refine qw F (r_not (F.t 114 rfl)) fun a F => ?_
    refine rgend ?_
    by_cases c68 : x63 = true
    ·rw [if_pos c68] at j_59
     rw [c68] at F
     refine wp_cond_false (F.ev rfl) ?_
     refine wp_skip ?_
     refine wp_region_lit ?_
     refine qw F (r_fa (off := 3) (F.t 10 rfl) fa32_3) fun a F => ?_
     refine qw F (r_ld (F.t 117 rfl) (cel_cell (o := 3) (H.cell 5 rfl) rfl) one30) fun a F => ?_
     refine qw F (r_fa (off := 4) (F.t 15 rfl) fa53_4) fun a F => ?_
     refine qw F (r_ld (F.t 119 rfl) (cel_cell (o := 4) (H.cell 0 rfl) rfl) one29) fun a F => ?_
     refine ls (lbs F H (e := 29) (vs := [(0, .slice A65 x62.Body.length c66)]) (cs := [.slice A65 x62.Body.length c66]) rfl (fun w => by kernel_rfl) fun g69 w a H F => ?_)
     obtain ⟨c70, j_59⟩ := guardO j_59
     obtain ⟨A71, c72, _, hr, H⟩ := Hp.appendCelL (kd := (kSlice kByte)) (xs := x54) (ys := [x62.Body]) (H.f8.f8.f8.f8.f8.f7.f7.f7.f8) (F.t 118 rfl) (F.t 121 rfl) Try.underlying30 ti29 rfl (by decide) (by decide) rfl ((SayL.cons (kd := (kSlice kByte)) (c1 := [.slice A65 x62.Body.length c66]) (y := x62.Body) (fun Z hp => ⟨A65, c66, rfl, pat hp 0 rfl⟩) SayL.nil)) c70
     refine qw F (hr _ _ _ _ _) fun a F => ?_
     refine qw F (r_fa (off := 3) (F.t 10 rfl) fa32_3) fun a F => ?_
     refine sto F [.slice A71 ((x54 ++ ([x62.Body]))).length c72] [.int .i64 x2.Gen, .slice A20 x19.length c21, .slice A23 x22.length c24, .slice A71 ((x54 ++ ([x62.Body]))).length c72] H.f7.f7.f6.f6.f6.f6.f6.f7 rfl rfl sz30 fun w a H F => ?_
     refine wpList_nil ?_
     replace F := F.only [0, 1, 2, 6, 8, 10, 14] (l' := [(0, _), (1, _), (2, _), (6, _), (8, _), (10, _), (14, _)]) rfl
     refine wp_region_lit ?_
     refine mv F rfl fun a F => ?_
     refine qw F (r_add (F.t 103 rfl) (F.k (.int .i64 1))) fun a F => ?_
     refine as_ F rfl fun a F => ?_
     refine wpList_nil ?_
     try dsimp only at j_59
     obtain rfl := Option.some.inj j_59
     exact ⟨_, rfl, A71, c72, F.only [0, 1, 2, 6, 8, 10, 14] rfl, H.px0.f7.f7.f5.f3.f7.f7.f6.fx7⟩
    rw [if_neg c68] at j_59
    rw [Bool.eq_false_iff.2 c68] at F
    refine wp_cond_true (F.ev rfl) ?_
    refine rg ?_
    refine qw F (r_ldA (F.t 10 rfl) (cel_range (o := 0) (n := 4) (vs := [.int .i64 x2.Gen, .slice A20 x19.length c21, .slice A23 x22.length c24, .slice A55 x54.length c56]) (H.cell 5 rfl) rfl) agg32 rfl) fun a F => ?_
    refine stF F [.int .i64 x2.Gen, .slice A20 x19.length c21, .slice A23 x22.length c24, .slice A55 x54.length c56] H.f7.f6.f6.f6.f6.f6.f6.f7 rfl rfl sz32 fun w a H F => ?_
    refine as_ F (v := .bool true) rfl fun a F => ?_
    refine rgend ?_
    replace F := F.only [7, 6] (l' := [(7, _), (6, _)]) rfl
    refine wp_ret ?_
    replace H := (H.f7.f7.f7.f6.f6.f6.f6.f7).freeze
    replace H := (H.f6.f6.f5.f5.f5.f5.f6).freeze
    replace H := (H.f5.f5.f4.f4.f4.f5).freeze
    try dsimp only at j_59
    obtain rfl := Option.some.inj j_59
    obtain rfl := u_59 _ rfl
    try dsimp only at h
    obtain ⟨rfl, rfl⟩ := Prod.mk.inj (Option.some.inj h)
    exact RET _ _ (retC2 F rfl rfl rfl (ldvA (cel_range (o := 0) (n := 4) (vs := [.int .i64 x2.Gen, .slice A20 x19.length c21, .slice A23 x22.length c24, .slice A55 x54.length c56]) (H.cell 0 rfl) rfl) agg32 rfl) ⟨_, rfl, A20, c21, A23, c24, A55, c56, rfl, H.p0.p2.p4.px3.px3.px3.px3.px3.fx4.fx3.fx1.fx0⟩)
   rw [if_neg c61] at j_59
   rw [decide_eq_false c61] at F
   refine wp_cond_false (F.ev rfl) ?_
   refine wp_exit ?_
   try dsimp only at j_59
   obtain rfl := Option.some.inj j_59
   obtain rfl := u_59 _ rfl
   repeat (with_reducible refine exT ?_)
   with_reducible refine exB ?_
   exact ⟨_, rfl, A55, c56, F.only [6, 10] rfl, H.px0.fx6⟩
  rintro a w ⟨x57, rfl, A58, c59, F, H⟩
  try dsimp only at h F H
  refine rg ?_
  refine qw F (r_ldA (F.t 10 rfl) (cel_range (o := 0) (n := 4) (vs := [.int .i64 x2.Gen, .slice A20 x19.length c21, .slice A23 x22.length c24, .slice A58 x57.length c59]) (H.cell 3 rfl) rfl) agg32 rfl) fun a F => ?_
  refine stF F [.int .i64 x2.Gen, .slice A20 x19.length c21, .slice A23 x22.length c24, .slice A58 x57.length c59] H.f4.f4.f4.f4.f4.f5 rfl rfl sz32 fun w a H F => ?_
  refine as_ F (v := .bool true) rfl fun a F => ?_
  refine rgend ?_
  refine wp_ret ?_
  replace H := (H.f5.f5.f5.f4.f4.f5).freeze
  replace H := (H.f4.f4.f3.f3.f4).freeze
  replace H := (H.f3.f3.f2.f3).freeze
  try dsimp only at h
  obtain ⟨rfl, rfl⟩ := Prod.mk.inj (Option.some.inj h)
  exact RET _ _ (retC2 F rfl rfl rfl (ldvA (cel_range (o := 0) (n := 4) (vs := [.int .i64 x2.Gen, .slice A20 x19.length c21, .slice A23 x22.length c24, .slice A58 x57.length c59]) (H.cell 0 rfl) rfl) agg32 rfl) ⟨_, rfl, A20, c21, A23, c24, A58, c59, rfl, H.p0.p2.p4.px3.px3.px3.fx1.fx0⟩)
 rw [if_neg c8] at h
 rw [Bool.eq_false_iff.2 c8] at F
 iterate 3 refine of_ F fun a F => ?_
 refine qw F (r_pickT (F.t 26 rfl) (F.k (.bool true))) fun a F => ?_
 refine mv F rfl fun a F => ?_
 iterate 7 refine of_ F fun a F => ?_
 refine qw F (r_pickT (F.t 31 rfl) (F.k (.bool true))) fun a F => ?_
 refine rgend ?_
 replace F := F.only [39, 8, 6, 0, 1, 2] (l' := [(39, _), (8, _), (6, _), (0, _), (1, _), (2, _)]) rfl
 refine wp_cond_true (F.ev rfl) ?_
 refine rg ?_
 refine ls (lbd F (vs := []) (cs := [.int .i64 0, .slice none 0 0, .slice none 0 0, .slice none 0 0]) rfl (fun w => by kernel_rfl) fun a F => ?_)
 refine stF F [.int .i64 0, .slice none 0 0, .slice none 0 0, .slice none 0 0] H.f1.f1.f2 rfl rfl sz32 fun w a H F => ?_
 refine as_ F (v := .bool false) rfl fun a F => ?_
 refine rgend ?_
 replace F := F.only [7, 6] (l' := [(7, _), (6, _)]) rfl
 refine wp_ret ?_
 replace H := H.nilRd kByte
 replace H := H.nilRd (kSlice kByte)
 try dsimp only at h
 obtain ⟨rfl, rfl⟩ := Prod.mk.inj (Option.some.inj h)
 exact RET _ _ (retC2 F rfl rfl rfl (ldvA (cel_range (o := 0) (n := 4) (vs := [.int .i64 0, .slice none 0 0, .slice none 0 0, .slice none 0 0]) (H.cell 0 rfl) rfl) agg32 rfl) ⟨_, rfl, none, 0, none, 0, none, 0, rfl, H.p0.p1.p3.px3.px3.px3.fx1.fx0⟩)
def ref17_Greatest_b0 (a0 : ref15_Disk) (a1 : Int) (a2 : Int) : (Int × Int) → Option (Int × Int ⊕ Int)
 | (x1, x2) => (((if x2 < a2 then some ((decide (x2 ≤ 4096))) else some false) : Option (Bool)).bind fun x5 => (if x5 = true then ((ref17_sector_f a0 a1 a2 x2).bind fun (x9, x10) => (((if x10 = true then some ((max x1 x9.Gen)) else some x1) : Option (Int)).bind fun x15 => some (.inl (x15, IntKind.i64.wrap (x2 + 1))))) else some (.inr x1)))
def ref17_Greatest_f (a0 : ref15_Disk) (a1 : Int) (a2 : Int) : Option (Int) :=
 ((lp (ref17_Greatest_b0 a0 a1 a2) (0, 0)).bind fun x3 => some x3)
theorem ref17_Greatest_ok {w0 w : World} {ps : List PF} {fs : List SF} {a0 : ref15_Disk} {g0_ : Nat} {a1 : Int} {a2 : Int} {r0 : Int} (H : Hp w0 ps (obj_ref15_Disk g0_ a0 :: fs) w) (h : ref17_Greatest_f a0 a1 a2 = some r0) :
  Calls Try.prog 90 [pt g0_, .int .i64 a1, .int .i64 a2].toArray w fun e w' => ∃ v, e = .returned v ∧ v = .int .i64 r0 ∧ Hp w0 ps (obj_ref15_Disk g0_ a0 :: fs) w' := by
 refine enter [pt g0_, .int .i64 a1, .int .i64 a2] 34 Try.func90 fun Q a NP RET NRM F => ?_
 replace NP := np NP
 unfold ref17_Greatest_f at h
 refine rg ?_
 refine as_ F (v := .int .i64 0) rfl fun a F => ?_
 refine rgend ?_
 refine rg ?_
 refine as_ F (v := .int .i64 0) rfl fun a F => ?_
 refine rgend ?_
 refine wp_seq ?_
 refine rg ?_
 refine as_ F (v := .int .i64 0) rfl fun a F => ?_
 refine rgend ?_
 obtain ⟨o_3, k_3, h⟩ := Option.bind_eq_some_iff.1 h
 refine cut (fun a w => ∃ (x3 : Int), x3 = o_3 ∧ Fr 34 [] [(7, .int .i64 x3)] a ∧ Hp w0 ps (obj_ref15_Disk g0_ a0 :: fs) w) (wp_block ?_) ?_
 ·refine wloop (ref17_Greatest_b0 a0 a1 a2) (fun (s : Int × Int) a w => Fr 34 [] [(0, pt g0_), (1, .int .i64 a1), (2, .int .i64 a2), (7, .int .i64 s.1), (8, .int .i64 s.2)] a ∧ Hp w0 ps (obj_ref15_Disk g0_ a0 :: fs) w) k_3 ⟨F.only [0, 1, 2, 7, 8] rfl, H⟩ ?_
  rintro ⟨x1, x2⟩ a w q_3 j_3 u_3 ⟨F, H⟩
  unfold ref17_Greatest_b0 at j_3
  try dsimp only at j_3 F H
  iterate 2 refine wp_seq ?_
  obtain ⟨o_5, k_5, j_3⟩ := Option.bind_eq_some_iff.1 j_3
  refine cut (fun a w => ∃ (x5 : Bool), x5 = o_5 ∧ Fr 34 [] [(0, pt g0_), (1, .int .i64 a1), (2, .int .i64 a2), (7, .int .i64 x1), (8, .int .i64 x2), (17, .bool x5)] a ∧ Hp w0 ps (obj_ref15_Disk g0_ a0 :: fs) w) ?_ ?_
  ·skip
   refine wp_region_lit ?_
   iterate 2 refine mv F rfl fun a F => ?_
   refine qw F (r_lt (F.t 11 rfl) (F.t 12 rfl)) fun a F => ?_
   refine mv F rfl fun a F => ?_
   by_cases c7 : x2 < a2
   ·rw [if_pos c7] at k_5
    rw [decide_eq_true c7] at F
    refine mv F rfl fun a F => ?_
    refine qw F (r_le (F.t 15 rfl) (F.k (.int .i64 4096))) fun a F => ?_
    refine qw F (r_pickT (F.t 14 rfl) (F.t 16 rfl)) fun a F => ?_
    refine wpList_nil ?_
    replace F := F.only [17, 0, 1, 2, 7, 8] (l' := [(17, _), (0, _), (1, _), (2, _), (7, _), (8, _)]) rfl
    try dsimp only at k_5
    obtain rfl := Option.some.inj k_5
    exact ⟨_, rfl, F.only [0, 1, 2, 7, 8, 17] rfl, H⟩
   rw [if_neg c7] at k_5
   rw [decide_eq_false c7] at F
   iterate 2 refine of_ F fun a F => ?_
   refine qw F (r_pickF (F.t 14 rfl) (F.k (.bool false))) fun a F => ?_
   refine wpList_nil ?_
   replace F := F.only [17, 0, 1, 2, 7, 8] (l' := [(17, _), (0, _), (1, _), (2, _), (7, _), (8, _)]) rfl
   try dsimp only at k_5
   obtain rfl := Option.some.inj k_5
   exact ⟨_, rfl, F.only [0, 1, 2, 7, 8, 17] rfl, H⟩
  rintro a w ⟨x5, rfl, F, H⟩
  try dsimp only at j_3 F H
  by_cases c8 : x5 = true
  ·rw [if_pos c8] at j_3
   rw [c8] at F
   refine wp_cond_true (F.ev rfl) ?_
   refine wp_skip ?_
   refine wp_seq ?_
   refine wp_block ?_
   refine rg ?_
   iterate 4 refine mv F rfl fun a F => ?_
   obtain ⟨⟨x9, x10⟩, e11, j_3⟩ := Option.bind_eq_some_iff.1 j_3
   try dsimp only at j_3
   refine ls (call F Try.func84 (ref17_sector_ok (H) e11) rfl rfl fun v w hR a F => ?_)
   obtain ⟨A12, c13, rfl, H⟩ := hR
   refine mv F rfl fun a F => ?_
   iterate 2 refine qw F (r_ex (F.t 20 rfl) rfl) fun a F => ?_
   refine ls (lal F H ti53 (cs := [.int .i64 0, .int .i64 0, .int .i64 0, .int .i64 0, .slice none 0 0]) rfl fun g14 w a H F => ?_)
   refine stF F [.int .i64 x9.Gen, .int .i64 x9.Place, .int .i64 x9.Parts, .int .i64 x9.Kept, .slice A12 x9.Body.length c13] H rfl rfl sz53 fun w a H F => ?_
   refine as_ F rfl fun a F => ?_
   refine rgend ?_
   replace F := F.only [10, 9, 0, 1, 2, 7, 8] (l' := [(10, _), (9, _), (0, _), (1, _), (2, _), (7, _), (8, _)]) rfl
   refine rg ?_
   refine mv F rfl fun a F => ?_
   refine rgend ?_
   obtain ⟨o_15, k_15, j_3⟩ := Option.bind_eq_some_iff.1 j_3
   refine cut (fun a w => ∃ (x15 : Int), x15 = o_15 ∧ Fr 34 [] [(0, pt g0_), (1, .int .i64 a1), (2, .int .i64 a2), (7, .int .i64 x15), (8, .int .i64 x2)] a ∧ Hp w0 ps (obj_ref15_Disk g0_ a0 :: fs) w) ?_ ?_
   ·skip
    by_cases c17 : x10 = true
    ·rw [if_pos c17] at k_15
     rw [c17] at F
     refine wp_cond_true (F.ev rfl) ?_
     refine wp_region_lit ?_
     refine mv F rfl fun a F => ?_
     refine qw F (r_fa (off := 0) (F.t 9 rfl) fa53_0) fun a F => ?_
     refine qw F (r_ld (F.t 30 rfl) (cel_cell (o := 0) (H.cell 0 rfl) rfl) one2) fun a F => ?_
     refine qw F (r_max (F.t 29 rfl) (F.t 31 rfl)) fun a F => ?_
     refine as_ F rfl fun a F => ?_
     refine wpList_nil ?_
     replace F := F.only [7, 0, 1, 2, 8] (l' := [(7, _), (0, _), (1, _), (2, _), (8, _)]) rfl
     try dsimp only at k_15
     obtain rfl := Option.some.inj k_15
     exact ⟨_, rfl, F.only [0, 1, 2, 7, 8] rfl, H.px0.fx0⟩
    rw [if_neg c17] at k_15
    rw [Bool.eq_false_iff.2 c17] at F
    refine wp_cond_false (F.ev rfl) ?_
    refine wp_skip ?_
    try dsimp only at k_15
    obtain rfl := Option.some.inj k_15
    exact ⟨_, rfl, F.only [0, 1, 2, 7, 8] rfl, H.px0.fx0⟩
   rintro a w ⟨x15, rfl, F, H⟩
   try dsimp only at j_3 F H
   refine wp_region_lit ?_
   refine mv F rfl fun a F => ?_
   refine qw F (r_add (F.t 18 rfl) (F.k (.int .i64 1))) fun a F => ?_
   refine as_ F rfl fun a F => ?_
   refine wpList_nil ?_
   try dsimp only at j_3
   obtain rfl := Option.some.inj j_3
   exact ⟨_, rfl, F.only [0, 1, 2, 7, 8] rfl, H⟩
  rw [if_neg c8] at j_3
  rw [Bool.eq_false_iff.2 c8] at F
  refine wp_cond_false (F.ev rfl) ?_
  refine wp_exit ?_
  try dsimp only at j_3
  obtain rfl := Option.some.inj j_3
  obtain rfl := u_3 _ rfl
  repeat (with_reducible refine exT ?_)
  with_reducible refine exB ?_
  exact ⟨_, rfl, F.only [7] rfl, H⟩
 rintro a w ⟨x3, rfl, F, H⟩
 try dsimp only at h F H
 refine rg ?_
 refine mv F rfl fun a F => ?_
 refine as_ F rfl fun a F => ?_
 refine rgend ?_
 refine wp_ret ?_
 try dsimp only at h
 obtain rfl := Option.some.inj h
 exact RET _ _ (ret1 F rfl rfl ⟨_, rfl, rfl, H⟩)
def ref17_Lay_b1 (a1 : Int) (a3 : Int) (a4 : List Int) (a5 : List (List Int)) (x19 : Int) : (Int × ref15_Disk) → Option (Int × ref15_Disk ⊕ (ref15_Disk ⊕ (Int × ref15_Disk)))
 | (x22, x23) => (if x22 < (IntKind.i64.wrap (x19 + (a5.length : Int))) then (((if x22 < x19 then (if 0 ≤ IntKind.i64.wrap (50 * x22) ∧ IntKind.i64.wrap (50 * x22) ≤ min (IntKind.i64.wrap ((IntKind.i64.wrap (50 * x22)) + 50)) (a4.length : Int) ∧ min (IntKind.i64.wrap ((IntKind.i64.wrap (50 * x22)) + 50)) (a4.length : Int) ≤ (a4.length : Int) then some ((((a4.take (min (IntKind.i64.wrap ((IntKind.i64.wrap (50 * x22)) + 50)) (a4.length : Int)).toNat).drop (IntKind.i64.wrap (50 * x22)).toNat))) else none) else (if 0 ≤ IntKind.i64.wrap (x22 - x19) ∧ IntKind.i64.wrap (x22 - x19) < (a5.length : Int) then some (((a5.getD (IntKind.i64.wrap (x22 - x19) : Int).toNat []))) else none)) : Option (List Int)).bind fun x28 => ((ref16_Put_f ((⟨a3, x22, x19, (a5.length : Int), x28⟩ : api_Sector))).bind fun x42 => ((ref15_Disk_Write_f x23 (IntKind.i64.wrap (a1 + x22)) x42).bind fun (x46, x47) => (if x46 ≠ 0 then some (.inr (.inr (x46, x47))) else some (.inl (IntKind.i64.wrap (x22 + 1), x47)))))) else some (.inr (.inl x23)))
def ref17_Lay_b0 (a0 : ref15_Disk) (a5 : List (List Int)) : Int → Option (Int ⊕ (Unit ⊕ (Int × ref15_Disk)))
 | x7 => (if x7 < (a5.length : Int) then (if 0 ≤ x7 ∧ x7 < (a5.length : Int) then ((ref17_Entry_f ((a5.getD (x7 : Int).toNat []))).bind fun x16 => (if x16 = true then some (.inl (IntKind.i64.wrap (x7 + 1))) else some (.inr (.inr (1, a0))))) else none) else some (.inr (.inl ())))
def ref17_Lay_f (a0 : ref15_Disk) (a1 : Int) (a2 : Int) (a3 : Int) (a4 : List Int) (a5 : List (List Int)) : Option (Int × ref15_Disk) :=
 (if a3 < 1 then some (1, a0) else (if a3 > 281474976710656 then some (1, a0) else ((ref17_State_f a4).bind fun x3 => (if x3 = true then (if (a5.length : Int) > 1000 then some (1, a0) else ((lp (ref17_Lay_b0 a0 a5) 0).bind fun q => match q with | .inl _ => ((ref17_Parts_f a4).bind fun x19 => (if (IntKind.i64.wrap (x19 + (a5.length : Int))) > a2 then some (5, a0) else ((lp (ref17_Lay_b1 a1 a3 a4 a5 x19) (0, a0)).bind fun q => match q with | .inl x24 => some (0, x24) | .inr r => some r))) | .inr r => some r)) else some (1, a0)))))
theorem ref17_Lay_ok {w0 w : World} {ps : List PF} {fs : List SF} {a0 : ref15_Disk} {g0_ : Nat} {a1 : Int} {a2 : Int} {a3 : Int} {a4 : List Int} {A4_ : Option Addr} {c4_ : Nat} {a5 : List (List Int)} {A5_ : Option Addr} {c5_ : Nat} {r0 : Int} {s0 : ref15_Disk} (H : Hp w0 (rd kByte A4_ c4_ a4 :: rd (kSlice kByte) A5_ c5_ a5 :: ps) (obj_ref15_Disk g0_ a0 :: fs) w) (h : ref17_Lay_f a0 a1 a2 a3 a4 a5 = some (r0, s0)) :
  Calls Try.prog 91 [pt g0_, .int .i64 a1, .int .i64 a2, .int .i64 a3, .slice A4_ a4.length c4_, .slice A5_ a5.length c5_].toArray w fun e w' => ∃ v, e = .returned v ∧ v = .int .i64 r0 ∧ Hp w0 ps (obj_ref15_Disk g0_ s0 :: fs) w' := by
 refine enter [pt g0_, .int .i64 a1, .int .i64 a2, .int .i64 a3, .slice A4_ a4.length c4_, .slice A5_ a5.length c5_] 99 Try.func91 fun Q a NP RET NRM F => ?_
 replace NP := np NP
 unfold ref17_Lay_f at h
 refine rg ?_
 refine as_ F (v := .int .i64 0) rfl fun a F => ?_
 refine rgend ?_
 refine wp_seq ?_
 refine rg ?_
 refine mv F rfl fun a F => ?_
 refine qw F (r_lt (F.t 18 rfl) (F.k (.int .i64 1))) fun a F => ?_
 refine mv F rfl fun a F => ?_
 by_cases c1 : a3 < 1
 ·rw [if_pos c1] at h
  rw [decide_eq_true c1] at F
  iterate 2 refine of_ F fun a F => ?_
  refine qw F (r_pickT (F.t 20 rfl) (F.k (.bool true))) fun a F => ?_
  refine mv F rfl fun a F => ?_
  iterate 3 refine of_ F fun a F => ?_
  refine qw F (r_pickT (F.t 24 rfl) (F.k (.bool true))) fun a F => ?_
  refine mv F rfl fun a F => ?_
  iterate 3 refine of_ F fun a F => ?_
  refine qw F (r_pickT (F.t 29 rfl) (F.k (.bool true))) fun a F => ?_
  refine rgend ?_
  replace F := F.only [33, 0, 1, 2, 3, 4, 5] (l' := [(33, _), (0, _), (1, _), (2, _), (3, _), (4, _), (5, _)]) rfl
  refine wp_cond_true (F.ev rfl) ?_
  refine rg ?_
  refine as_ F (v := .int .i64 1) rfl fun a F => ?_
  refine rgend ?_
  replace F := F.only [12] (l' := [(12, _)]) rfl
  refine wp_ret ?_
  try dsimp only at h
  obtain ⟨rfl, rfl⟩ := Prod.mk.inj (Option.some.inj h)
  exact RET _ _ (ret1 F rfl rfl ⟨_, rfl, rfl, H.px1.px0⟩)
 rw [if_neg c1] at h
 rw [decide_eq_false c1] at F
 refine mv F rfl fun a F => ?_
 refine qw F (r_gt (F.t 21 rfl) (F.k (.int .i64 281474976710656))) fun a F => ?_
 refine qw F (r_pickF (F.t 20 rfl) (F.t 22 rfl)) fun a F => ?_
 refine mv F rfl fun a F => ?_
 by_cases c2 : a3 > 281474976710656
 ·rw [if_pos c2] at h
  rw [decide_eq_true c2] at F
  iterate 3 refine of_ F fun a F => ?_
  refine qw F (r_pickT (F.t 24 rfl) (F.k (.bool true))) fun a F => ?_
  refine mv F rfl fun a F => ?_
  iterate 3 refine of_ F fun a F => ?_
  refine qw F (r_pickT (F.t 29 rfl) (F.k (.bool true))) fun a F => ?_
  refine rgend ?_
  replace F := F.only [33, 0, 1, 2, 3, 4, 5] (l' := [(33, _), (0, _), (1, _), (2, _), (3, _), (4, _), (5, _)]) rfl
  refine wp_cond_true (F.ev rfl) ?_
  refine rg ?_
  refine as_ F (v := .int .i64 1) rfl fun a F => ?_
  refine rgend ?_
  replace F := F.only [12] (l' := [(12, _)]) rfl
  refine wp_ret ?_
  try dsimp only at h
  obtain ⟨rfl, rfl⟩ := Prod.mk.inj (Option.some.inj h)
  exact RET _ _ (ret1 F rfl rfl ⟨_, rfl, rfl, H.px1.px0⟩)
 rw [if_neg c2] at h
 rw [decide_eq_false c2] at F
 refine mv F rfl fun a F => ?_
 obtain ⟨x3, e4, h⟩ := Option.bind_eq_some_iff.1 h
 try dsimp only at h
 refine ls (call F Try.func98 (ref17_State_ok (H.p0) e4) rfl rfl fun v w hR a F => ?_)
 obtain ⟨rfl, H⟩ := hR
 refine qw F (r_not (F.t 26 rfl)) fun a F => ?_
 refine qw F (r_pickF (F.t 24 rfl) (F.t 27 rfl)) fun a F => ?_
 refine mv F rfl fun a F => ?_
 by_cases c5 : x3 = true
 ·rw [if_pos c5] at h
  rw [c5] at F
  refine mv F rfl fun a F => ?_
  refine qw F (r_len (F.t 30 rfl) Try.underlying30) fun a F => ?_
  refine qw F (r_gt (F.t 31 rfl) (F.k (.int .i64 1000))) fun a F => ?_
  refine qw F (r_pickF (F.t 29 rfl) (F.t 32 rfl)) fun a F => ?_
  refine rgend ?_
  replace F := F.only [33, 0, 1, 2, 3, 4, 5] (l' := [(33, _), (0, _), (1, _), (2, _), (3, _), (4, _), (5, _)]) rfl
  by_cases c6 : (a5.length : Int) > 1000
  ·rw [if_pos c6] at h
   rw [decide_eq_true c6] at F
   refine wp_cond_true (F.ev rfl) ?_
   refine rg ?_
   refine as_ F (v := .int .i64 1) rfl fun a F => ?_
   refine rgend ?_
   replace F := F.only [12] (l' := [(12, _)]) rfl
   refine wp_ret ?_
   try dsimp only at h
   obtain ⟨rfl, rfl⟩ := Prod.mk.inj (Option.some.inj h)
   exact RET _ _ (ret1 F rfl rfl ⟨_, rfl, rfl, H.px1.px0⟩)
  rw [if_neg c6] at h
  rw [decide_eq_false c6] at F
  refine wp_cond_false (F.ev rfl) ?_
  refine wp_skip ?_
  refine wp_seq ?_
  refine rg ?_
  refine as_ F (v := .int .i64 0) rfl fun a F => ?_
  refine rgend ?_
  obtain ⟨o_7, k_7, h⟩ := Option.bind_eq_some_iff.1 h
  refine cut (fun a w => Sum.inl () = o_7 ∧ Fr 99 [] [(0, pt g0_), (1, .int .i64 a1), (2, .int .i64 a2), (3, .int .i64 a3), (4, .slice A4_ a4.length c4_), (5, .slice A5_ a5.length c5_)] a ∧ Hp w0 (rd kByte A4_ c4_ a4 :: rd (kSlice kByte) A5_ c5_ a5 :: ps) (obj_ref15_Disk g0_ a0 :: fs) w) (wp_block ?_) ?_
  ·refine wloop (ref17_Lay_b0 a0 a5) (fun (s : Int) a w => Fr 99 [] [(0, pt g0_), (1, .int .i64 a1), (2, .int .i64 a2), (3, .int .i64 a3), (4, .slice A4_ a4.length c4_), (5, .slice A5_ a5.length c5_), (13, .int .i64 s)] a ∧ Hp w0 (rd kByte A4_ c4_ a4 :: rd (kSlice kByte) A5_ c5_ a5 :: ps) (obj_ref15_Disk g0_ a0 :: fs) w) k_7 ⟨F.only [0, 1, 2, 3, 4, 5, 13] rfl, H⟩ ?_
   rintro x7 a w q_7 j_7 u_7 ⟨F, H⟩
   unfold ref17_Lay_b0 at j_7
   try dsimp only at j_7 F H
   refine wp_seq ?_
   refine rg ?_
   iterate 2 refine mv F rfl fun a F => ?_
   refine qw F (r_len (F.t 35 rfl) Try.underlying30) fun a F => ?_
   refine qw F (r_lt (F.t 34 rfl) (F.t 36 rfl)) fun a F => ?_
   refine rgend ?_
   by_cases c9 : x7 < (a5.length : Int)
   ·rw [if_pos c9] at j_7
    rw [decide_eq_true c9] at F
    refine wp_cond_true (F.ev rfl) ?_
    refine wp_skip ?_
    refine wp_seq ?_
    refine wp_block ?_
    refine rg ?_
    iterate 2 refine mv F rfl fun a F => ?_
    obtain ⟨c10, j_7⟩ := guardO j_7
    obtain ⟨g11, o12, s13, hr, H⟩ := H.ix [] 1 rfl (F.t 40 rfl) (F.t 41 rfl) Try.underlying30 sz29 (by decide) c10.1 c10.2
    obtain ⟨A14, c15, rfl, H⟩ := H.says_slice 1 rfl
    refine qw F (hr _ _ _ _ _ _) fun a F => ?_
    refine qw F (r_ld (F.t 42 rfl) (range_cell (j := 0) (H.range 1 rfl) rfl) one29) fun a F => ?_
    obtain ⟨x16, e17, j_7⟩ := Option.bind_eq_some_iff.1 j_7
    try dsimp only at j_7
    refine ls (call F Try.func97 (ref17_Entry_ok (H.p0) e17) rfl rfl fun v w hR a F => ?_)
    obtain ⟨rfl, H⟩ := hR
    refine qw F (r_not (F.t 44 rfl)) fun a F => ?_
    refine rgend ?_
    replace F := F.only [45, 0, 1, 2, 3, 4, 5, 13] (l' := [(45, _), (0, _), (1, _), (2, _), (3, _), (4, _), (5, _), (13, _)]) rfl
    by_cases c18 : x16 = true
    ·rw [if_pos c18] at j_7
     rw [c18] at F
     refine wp_cond_false (F.ev rfl) ?_
     refine wp_skip ?_
     refine wp_region_lit ?_
     refine mv F rfl fun a F => ?_
     refine qw F (r_add (F.t 38 rfl) (F.k (.int .i64 1))) fun a F => ?_
     refine as_ F rfl fun a F => ?_
     refine wpList_nil ?_
     replace F := F.only [13, 0, 1, 2, 3, 4, 5] (l' := [(13, _), (0, _), (1, _), (2, _), (3, _), (4, _), (5, _)]) rfl
     try dsimp only at j_7
     obtain rfl := Option.some.inj j_7
     exact ⟨_, rfl, F.only [0, 1, 2, 3, 4, 5, 13] rfl, H.px2.px1.px0⟩
    rw [if_neg c18] at j_7
    rw [Bool.eq_false_iff.2 c18] at F
    refine wp_cond_true (F.ev rfl) ?_
    refine rg ?_
    refine as_ F (v := .int .i64 1) rfl fun a F => ?_
    refine rgend ?_
    replace F := F.only [12] (l' := [(12, _)]) rfl
    refine wp_ret ?_
    try dsimp only at j_7
    obtain rfl := Option.some.inj j_7
    obtain rfl := u_7 _ rfl
    try dsimp only at h
    obtain ⟨rfl, rfl⟩ := Prod.mk.inj (Option.some.inj h)
    exact RET _ _ (ret1 F rfl rfl ⟨_, rfl, rfl, H.px4.px3.px2.px1.px0⟩)
   rw [if_neg c9] at j_7
   rw [decide_eq_false c9] at F
   refine wp_cond_false (F.ev rfl) ?_
   refine wp_exit ?_
   try dsimp only at j_7
   obtain rfl := Option.some.inj j_7
   obtain rfl := u_7 _ rfl
   repeat (with_reducible refine exT ?_)
   with_reducible refine exB ?_
   exact ⟨rfl, F.only [0, 1, 2, 3, 4, 5] rfl, H⟩
  rintro a w ⟨rfl, F, H⟩
  try dsimp only at h F H
  refine rg ?_
  refine mv F rfl fun a F => ?_
  obtain ⟨x19, e20, h⟩ := Option.bind_eq_some_iff.1 h
  try dsimp only at h
  refine ls (call F Try.func99 (ref17_Parts_ok (H.p0) e20) rfl rfl fun v w hR a F => ?_)
  obtain ⟨rfl, H⟩ := hR
  refine as_ F rfl fun a F => ?_
  refine rgend ?_
  refine wp_seq ?_
  refine rg ?_
  iterate 2 refine mv F rfl fun a F => ?_
  refine qw F (r_len (F.t 49 rfl) Try.underlying30) fun a F => ?_
  refine qw F (r_add (F.t 48 rfl) (F.t 50 rfl)) fun a F => ?_
  refine mv F rfl fun a F => ?_
  refine qw F (r_gt (F.t 51 rfl) (F.t 52 rfl)) fun a F => ?_
  refine rgend ?_
  replace F := F.only [53, 14, 0, 1, 3, 4, 5] (l' := [(53, _), (14, _), (0, _), (1, _), (3, _), (4, _), (5, _)]) rfl
  by_cases c21 : (IntKind.i64.wrap (x19 + (a5.length : Int))) > a2
  ·rw [if_pos c21] at h
   rw [decide_eq_true c21] at F
   refine wp_cond_true (F.ev rfl) ?_
   refine rg ?_
   refine as_ F (v := .int .i64 5) rfl fun a F => ?_
   refine rgend ?_
   replace F := F.only [12] (l' := [(12, _)]) rfl
   refine wp_ret ?_
   try dsimp only at h
   obtain ⟨rfl, rfl⟩ := Prod.mk.inj (Option.some.inj h)
   exact RET _ _ (ret1 F rfl rfl ⟨_, rfl, rfl, H.px1.px0⟩)
  rw [if_neg c21] at h
  rw [decide_eq_false c21] at F
  refine wp_cond_false (F.ev rfl) ?_
  refine wp_skip ?_
  refine wp_seq ?_
  refine rg ?_
  refine as_ F (v := .int .i64 0) rfl fun a F => ?_
  refine rgend ?_
  obtain ⟨o_24, k_24, h⟩ := Option.bind_eq_some_iff.1 h
  refine cut (fun a w => ∃ (x24 : ref15_Disk), Sum.inl x24 = o_24 ∧ Fr 99 [] [] a ∧ Hp w0 ps (obj_ref15_Disk g0_ x24 :: fs) w) (wp_block ?_) ?_
  ·refine wloop (ref17_Lay_b1 a1 a3 a4 a5 x19) (fun (s : Int × ref15_Disk) a w => Fr 99 [] [(0, pt g0_), (1, .int .i64 a1), (3, .int .i64 a3), (4, .slice A4_ a4.length c4_), (5, .slice A5_ a5.length c5_), (14, .int .i64 x19), (15, .int .i64 s.1)] a ∧ Hp w0 (rd kByte A4_ c4_ a4 :: rd (kSlice kByte) A5_ c5_ a5 :: ps) (obj_ref15_Disk g0_ s.2 :: fs) w) k_24 ⟨F.only [0, 1, 3, 4, 5, 14, 15] rfl, H⟩ ?_
   rintro ⟨x22, x23⟩ a w q_24 j_24 u_24 ⟨F, H⟩
   unfold ref17_Lay_b1 at j_24
   try dsimp only at j_24 F H
   refine wp_seq ?_
   refine rg ?_
   iterate 3 refine mv F rfl fun a F => ?_
   refine qw F (r_len (F.t 56 rfl) Try.underlying30) fun a F => ?_
   refine qw F (r_add (F.t 55 rfl) (F.t 57 rfl)) fun a F => ?_
   refine qw F (r_lt (F.t 54 rfl) (F.t 58 rfl)) fun a F => ?_
   refine rgend ?_
   replace F := F.only [59, 0, 1, 3, 4, 5, 14, 15] (l' := [(59, _), (0, _), (1, _), (3, _), (4, _), (5, _), (14, _), (15, _)]) rfl
   by_cases c26 : x22 < (IntKind.i64.wrap (x19 + (a5.length : Int)))
   ·rw [if_pos c26] at j_24
    rw [decide_eq_true c26] at F
    refine wp_cond_true (F.ev rfl) ?_
    refine wp_skip ?_
    refine wp_seq ?_
    refine wp_block ?_
    refine rg ?_
    iterate 4 refine mv F rfl fun a F => ?_
    refine qw F (r_len (F.t 65 rfl) Try.underlying30) fun a F => ?_
    refine ls (lbd F (vs := [(0, .int .i64 a3), (1, .int .i64 x22), (2, .int .i64 x19), (3, .int .i64 (a5.length : Int))]) (cs := [.int .i64 a3, .int .i64 x22, .int .i64 x19, .int .i64 (a5.length : Int), .slice none 0 0]) rfl (fun w => by kernel_rfl) fun a F => ?_)
    refine ls (lal F H ti53 (cs := [.int .i64 0, .int .i64 0, .int .i64 0, .int .i64 0, .slice none 0 0]) rfl fun g27 w a H F => ?_)
    refine stF F [.int .i64 a3, .int .i64 x22, .int .i64 x19, .int .i64 (a5.length : Int), .slice none 0 0] H rfl rfl sz53 fun w a H F => ?_
    refine rgend ?_
    replace F := F.only [16, 0, 1, 3, 4, 5, 14, 15] (l' := [(16, _), (0, _), (1, _), (3, _), (4, _), (5, _), (14, _), (15, _)]) rfl
    refine wp_seq ?_
    refine rg ?_
    iterate 2 refine mv F rfl fun a F => ?_
    refine qw F (r_lt (F.t 68 rfl) (F.t 69 rfl)) fun a F => ?_
    refine rgend ?_
    obtain ⟨o_30, k_30, j_24⟩ := Option.bind_eq_some_iff.1 j_24
    refine cut (fun a w => ∃ (x28 : List Int), x28 = o_30 ∧ ∃ (A29 : Option Addr) (c30 : Nat), Fr 99 [] [(0, pt g0_), (1, .int .i64 a1), (3, .int .i64 a3), (4, .slice A4_ a4.length c4_), (5, .slice A5_ a5.length c5_), (14, .int .i64 x19), (15, .int .i64 x22), (16, pt g27)] a ∧ Hp w0 (rd kByte A29 c30 x28 :: rd kByte A4_ c4_ a4 :: rd (kSlice kByte) A5_ c5_ a5 :: ps) (cel g27 [.int .i64 a3, .int .i64 x22, .int .i64 x19, .int .i64 (a5.length : Int), .slice A29 x28.length c30] 53 :: obj_ref15_Disk g0_ x23 :: fs) w) ?_ ?_
    ·skip
     by_cases c32 : x22 < x19
     ·rw [if_pos c32] at k_30
      rw [decide_eq_true c32] at F
      refine wp_cond_true (F.ev rfl) ?_
      refine wp_region_lit ?_
      iterate 2 refine mv F rfl fun a F => ?_
      refine qw F (r_mul (F.k (.int .i64 50)) (F.t 72 rfl)) fun a F => ?_
      refine mv F rfl fun a F => ?_
      refine qw F (r_mul (F.k (.int .i64 50)) (F.t 74 rfl)) fun a F => ?_
      refine qw F (r_add (F.t 75 rfl) (F.k (.int .i64 50))) fun a F => ?_
      refine mv F rfl fun a F => ?_
      refine qw F (r_len (F.t 77 rfl) Try.underlying29) fun a F => ?_
      refine qw F (r_min (F.t 76 rfl) (F.t 78 rfl)) fun a F => ?_
      obtain ⟨c33, k_30⟩ := guardO k_30
      obtain ⟨A34, c35, hr, H⟩ := Hp.sl (kd := kByte) (jl := IntKind.i64.wrap (50 * x22)) (jh := min (IntKind.i64.wrap ((IntKind.i64.wrap (50 * x22)) + 50)) (a4.length : Int)) H 0 rfl (F.t 71 rfl) Try.underlying29 sz5 (.inr ⟨_, _, rfl, (F.t 73 rfl)⟩) (.inr ⟨_, _, rfl, (F.t 79 rfl)⟩) c33
      refine qw F (hr _ _ _ _ _ _) fun a F => ?_
      refine qw F (r_fa (off := 4) (F.t 16 rfl) fa53_4) fun a F => ?_
      refine sto F [.slice A34 (((a4.take (min (IntKind.i64.wrap ((IntKind.i64.wrap (50 * x22)) + 50)) (a4.length : Int)).toNat).drop (IntKind.i64.wrap (50 * x22)).toNat)).length c35] [.int .i64 a3, .int .i64 x22, .int .i64 x19, .int .i64 (a5.length : Int), .slice A34 (((a4.take (min (IntKind.i64.wrap ((IntKind.i64.wrap (50 * x22)) + 50)) (a4.length : Int)).toNat).drop (IntKind.i64.wrap (50 * x22)).toNat)).length c35] H rfl rfl sz29 fun w a H F => ?_
      refine wpList_nil ?_
      replace F := F.only [16, 0, 1, 3, 4, 5, 14, 15] (l' := [(16, _), (0, _), (1, _), (3, _), (4, _), (5, _), (14, _), (15, _)]) rfl
      try dsimp only at k_30
      obtain rfl := Option.some.inj k_30
      exact ⟨_, rfl, A34, c35, F.only [0, 1, 3, 4, 5, 14, 15, 16] rfl, H⟩
     rw [if_neg c32] at k_30
     rw [decide_eq_false c32] at F
     refine wp_cond_false (F.ev rfl) ?_
     refine wp_region_lit ?_
     iterate 3 refine mv F rfl fun a F => ?_
     refine qw F (r_sub (F.t 83 rfl) (F.t 84 rfl)) fun a F => ?_
     obtain ⟨c36, k_30⟩ := guardO k_30
     obtain ⟨g37, o38, s39, hr, H⟩ := H.ix [] 1 rfl (F.t 82 rfl) (F.t 85 rfl) Try.underlying30 sz29 (by decide) c36.1 c36.2
     obtain ⟨A40, c41, rfl, H⟩ := H.says_slice 1 rfl
     refine qw F (hr _ _ _ _ _ _) fun a F => ?_
     refine qw F (r_ld (F.t 86 rfl) (range_cell (j := 0) (H.range 1 rfl) rfl) one29) fun a F => ?_
     refine qw F (r_fa (off := 4) (F.t 16 rfl) fa53_4) fun a F => ?_
     refine sto F [.slice A40 ((a5.getD (IntKind.i64.wrap (x22 - x19) : Int).toNat [])).length c41] [.int .i64 a3, .int .i64 x22, .int .i64 x19, .int .i64 (a5.length : Int), .slice A40 ((a5.getD (IntKind.i64.wrap (x22 - x19) : Int).toNat [])).length c41] H rfl rfl sz29 fun w a H F => ?_
     refine wpList_nil ?_
     replace F := F.only [16, 0, 1, 3, 4, 5, 14, 15] (l' := [(16, _), (0, _), (1, _), (3, _), (4, _), (5, _), (14, _), (15, _)]) rfl
     try dsimp only at k_30
     obtain rfl := Option.some.inj k_30
     exact ⟨_, rfl, A40, c41, F.only [0, 1, 3, 4, 5, 14, 15, 16] rfl, H.px2.px1⟩
    rintro a w ⟨x28, rfl, A29, c30, F, H⟩
    try dsimp only at j_24 F H
    refine rg ?_
    iterate 3 refine mv F rfl fun a F => ?_
    refine qw F (r_add (F.t 90 rfl) (F.t 91 rfl)) fun a F => ?_
    refine qw F (r_ldA (F.t 16 rfl) (cel_range (o := 0) (n := 5) (vs := [.int .i64 a3, .int .i64 x22, .int .i64 x19, .int .i64 (a5.length : Int), .slice A29 x28.length c30]) (H.cell 0 rfl) rfl) agg53 rfl) fun a F => ?_
    obtain ⟨x42, e43, j_24⟩ := Option.bind_eq_some_iff.1 j_24
    try dsimp only at j_24
    refine ls (call F Try.func27 (ref16_Put_ok (a0 := (⟨a3, x22, x19, (a5.length : Int), x28⟩ : api_Sector)) (H.p0) e43) rfl rfl fun v w hR a F => ?_)
    obtain ⟨A44, c45, rfl, H⟩ := hR
    obtain ⟨⟨x46, x47⟩, e48, j_24⟩ := Option.bind_eq_some_iff.1 j_24
    try dsimp only at j_24
    refine ls (call F Try.func28 (ref15_Disk_Write_ok (H.p0.f1) e48) rfl rfl fun v w hR a F => ?_)
    obtain ⟨rfl, H⟩ := hR
    refine as_ F rfl fun a F => ?_
    refine rgend ?_
    replace F := F.only [17, 0, 1, 3, 4, 5, 14, 15] (l' := [(17, _), (0, _), (1, _), (3, _), (4, _), (5, _), (14, _), (15, _)]) rfl
    refine rg ?_
    refine mv F rfl fun a F => ?_
    refine qw F (r_ne (F.t 96 rfl) (F.k (.int .i64 0))) fun a F => ?_
    refine rgend ?_
    by_cases c49 : x46 ≠ 0
    ·rw [if_pos c49] at j_24
     rw [decide_eq_true c49] at F
     refine wp_cond_true (F.ev rfl) ?_
     refine rg ?_
     refine mv F rfl fun a F => ?_
     refine as_ F rfl fun a F => ?_
     refine rgend ?_
     replace F := F.only [12] (l' := [(12, _)]) rfl
     refine wp_ret ?_
     try dsimp only at j_24
     obtain rfl := Option.some.inj j_24
     obtain rfl := u_24 _ rfl
     try dsimp only at h
     obtain ⟨rfl, rfl⟩ := Prod.mk.inj (Option.some.inj h)
     exact RET _ _ (ret1 F rfl rfl ⟨_, rfl, rfl, H.px3.px2.px1.px0.fx1⟩)
    rw [if_neg c49] at j_24
    rw [decide_eq_false c49] at F
    refine wp_cond_false (F.ev rfl) ?_
    refine wp_skip ?_
    refine wp_region_lit ?_
    refine mv F rfl fun a F => ?_
    refine qw F (r_add (F.t 60 rfl) (F.k (.int .i64 1))) fun a F => ?_
    refine as_ F rfl fun a F => ?_
    refine wpList_nil ?_
    replace F := F.only [15, 0, 1, 3, 4, 5, 14] (l' := [(15, _), (0, _), (1, _), (3, _), (4, _), (5, _), (14, _)]) rfl
    try dsimp only at j_24
    obtain rfl := Option.some.inj j_24
    exact ⟨_, rfl, F.only [0, 1, 3, 4, 5, 14, 15] rfl, H.px1.px0.fx1⟩
   rw [if_neg c26] at j_24
   rw [decide_eq_false c26] at F
   refine wp_cond_false (F.ev rfl) ?_
   refine wp_exit ?_
   try dsimp only at j_24
   obtain rfl := Option.some.inj j_24
   obtain rfl := u_24 _ rfl
   repeat (with_reducible refine exT ?_)
   with_reducible refine exB ?_
   exact ⟨_, rfl, F.only [] rfl, H.px1.px0⟩
  rintro a w ⟨x24, rfl, F, H⟩
  try dsimp only at h F H
  refine rg ?_
  refine as_ F (v := .int .i64 0) rfl fun a F => ?_
  refine rgend ?_
  refine wp_ret ?_
  try dsimp only at h
  obtain ⟨rfl, rfl⟩ := Prod.mk.inj (Option.some.inj h)
  exact RET _ _ (ret1 F rfl rfl ⟨_, rfl, rfl, H⟩)
 rw [if_neg c5] at h
 rw [Bool.eq_false_iff.2 c5] at F
 iterate 3 refine of_ F fun a F => ?_
 refine qw F (r_pickT (F.t 29 rfl) (F.k (.bool true))) fun a F => ?_
 refine rgend ?_
 replace F := F.only [33, 0, 1, 2, 3, 4, 5] (l' := [(33, _), (0, _), (1, _), (2, _), (3, _), (4, _), (5, _)]) rfl
 refine wp_cond_true (F.ev rfl) ?_
 refine rg ?_
 refine as_ F (v := .int .i64 1) rfl fun a F => ?_
 refine rgend ?_
 replace F := F.only [12] (l' := [(12, _)]) rfl
 refine wp_ret ?_
 try dsimp only at h
 obtain ⟨rfl, rfl⟩ := Prod.mk.inj (Option.some.inj h)
 exact RET _ _ (ret1 F rfl rfl ⟨_, rfl, rfl, H.px1.px0⟩)
def ref17_Put_f (a0 : ref15_Disk) (a1 : Int) (a2 : Int) (a3 : api_Region) (a4 : List Int) : Option (Int × ref15_Disk) :=
 ((ref17_Entry_f a4).bind fun x2 => (if x2 = true then (if a3.Gen < 1 then some (1, a0) else (if a3.Gen > 281474976710656 then some (1, a0) else ((ref17_State_f a3.State).bind fun x7 => (if x7 = true then (if (a3.Kept.length : Int) > 1000 then some (1, a0) else ((ref17_Parts_f a3.State).bind fun x11 => (if (IntKind.i64.wrap ((IntKind.i64.wrap (x11 + (a3.Kept.length : Int))) + (a3.More.length : Int))) ≥ a2 then some (5, a0) else ((ref16_Put_f ((⟨a3.Gen, IntKind.i64.wrap ((IntKind.i64.wrap (x11 + (a3.Kept.length : Int))) + (a3.More.length : Int)), x11, (a3.Kept.length : Int), a4⟩ : api_Sector))).bind fun x14 => ((ref15_Disk_Write_f a0 (IntKind.i64.wrap (a1 + (IntKind.i64.wrap ((IntKind.i64.wrap (x11 + (a3.Kept.length : Int))) + (a3.More.length : Int))))) x14).bind fun (x18, x19) => some (x18, x19)))))) else some (1, a0))))) else some (1, a0)))
theorem ref17_Put_ok {w0 w : World} {ps : List PF} {fs : List SF} {a0 : ref15_Disk} {g0_ : Nat} {a1 : Int} {a2 : Int} {a3 : api_Region} {A3_1 : Option Addr} {c3_1 : Nat} {A3_2 : Option Addr} {c3_2 : Nat} {A3_3 : Option Addr} {c3_3 : Nat} {a4 : List Int} {A4_ : Option Addr} {c4_ : Nat} {r0 : Int} {s0 : ref15_Disk} (H : Hp w0 (rd kByte A3_1 c3_1 a3.State :: rd (kSlice kByte) A3_2 c3_2 a3.Kept :: rd (kSlice kByte) A3_3 c3_3 a3.More :: rd kByte A4_ c4_ a4 :: ps) (obj_ref15_Disk g0_ a0 :: fs) w) (h : ref17_Put_f a0 a1 a2 a3 a4 = some (r0, s0)) :
  Calls Try.prog 87 [pt g0_, .int .i64 a1, .int .i64 a2, .agg #[.int .i64 a3.Gen, .slice A3_1 a3.State.length c3_1, .slice A3_2 a3.Kept.length c3_2, .slice A3_3 a3.More.length c3_3], .slice A4_ a4.length c4_].toArray w fun e w' => ∃ v, e = .returned v ∧ v = .int .i64 r0 ∧ Hp w0 ps (obj_ref15_Disk g0_ s0 :: fs) w' := by
 refine enter [pt g0_, .int .i64 a1, .int .i64 a2, .agg #[.int .i64 a3.Gen, .slice A3_1 a3.State.length c3_1, .slice A3_2 a3.Kept.length c3_2, .slice A3_3 a3.More.length c3_3], .slice A4_ a4.length c4_] 68 Try.func87 fun Q a NP RET NRM F => ?_
 replace NP := np NP
 unfold ref17_Put_f at h
 refine rg ?_
 refine ls (lbox F H rfl (cs := [.int .i64 a3.Gen, .slice A3_1 a3.State.length c3_1, .slice A3_2 a3.Kept.length c3_2, .slice A3_3 a3.More.length c3_3]) rfl fun g1 w a H F => ?_)
 refine as_ F (v := .int .i64 0) rfl fun a F => ?_
 refine rgend ?_
 refine wp_seq ?_
 refine rg ?_
 refine mv F rfl fun a F => ?_
 obtain ⟨x2, e3, h⟩ := Option.bind_eq_some_iff.1 h
 try dsimp only at h
 refine ls (call F Try.func97 (ref17_Entry_ok (H.p3) e3) rfl rfl fun v w hR a F => ?_)
 obtain ⟨rfl, H⟩ := hR
 refine qw F (r_not (F.t 14 rfl)) fun a F => ?_
 refine mv F rfl fun a F => ?_
 by_cases c4 : x2 = true
 ·rw [if_pos c4] at h
  rw [c4] at F
  refine qw F (r_fa (off := 0) (F.t 8 rfl) fa32_0) fun a F => ?_
  refine qw F (r_ld (F.t 17 rfl) (cel_cell (o := 0) (H.cell 0 rfl) rfl) one2) fun a F => ?_
  refine qw F (r_lt (F.t 18 rfl) (F.k (.int .i64 1))) fun a F => ?_
  refine qw F (r_pickF (F.t 16 rfl) (F.t 19 rfl)) fun a F => ?_
  refine mv F rfl fun a F => ?_
  by_cases c5 : a3.Gen < 1
  ·rw [if_pos c5] at h
   rw [decide_eq_true c5] at F
   iterate 3 refine of_ F fun a F => ?_
   refine qw F (r_pickT (F.t 21 rfl) (F.k (.bool true))) fun a F => ?_
   refine mv F rfl fun a F => ?_
   iterate 4 refine of_ F fun a F => ?_
   refine qw F (r_pickT (F.t 26 rfl) (F.k (.bool true))) fun a F => ?_
   refine mv F rfl fun a F => ?_
   iterate 4 refine of_ F fun a F => ?_
   refine qw F (r_pickT (F.t 32 rfl) (F.k (.bool true))) fun a F => ?_
   refine rgend ?_
   replace F := F.only [37, 8, 0, 1, 2, 4] (l' := [(37, _), (8, _), (0, _), (1, _), (2, _), (4, _)]) rfl
   refine wp_cond_true (F.ev rfl) ?_
   refine rg ?_
   refine as_ F (v := .int .i64 1) rfl fun a F => ?_
   refine rgend ?_
   replace F := F.only [10] (l' := [(10, _)]) rfl
   refine wp_ret ?_
   try dsimp only at h
   obtain ⟨rfl, rfl⟩ := Prod.mk.inj (Option.some.inj h)
   exact RET _ _ (ret1 F rfl rfl ⟨_, rfl, rfl, H.px3.px2.px1.px0.fx0⟩)
  rw [if_neg c5] at h
  rw [decide_eq_false c5] at F
  refine qw F (r_fa (off := 0) (F.t 8 rfl) fa32_0) fun a F => ?_
  refine qw F (r_ld (F.t 22 rfl) (cel_cell (o := 0) (H.cell 0 rfl) rfl) one2) fun a F => ?_
  refine qw F (r_gt (F.t 23 rfl) (F.k (.int .i64 281474976710656))) fun a F => ?_
  refine qw F (r_pickF (F.t 21 rfl) (F.t 24 rfl)) fun a F => ?_
  refine mv F rfl fun a F => ?_
  by_cases c6 : a3.Gen > 281474976710656
  ·rw [if_pos c6] at h
   rw [decide_eq_true c6] at F
   iterate 4 refine of_ F fun a F => ?_
   refine qw F (r_pickT (F.t 26 rfl) (F.k (.bool true))) fun a F => ?_
   refine mv F rfl fun a F => ?_
   iterate 4 refine of_ F fun a F => ?_
   refine qw F (r_pickT (F.t 32 rfl) (F.k (.bool true))) fun a F => ?_
   refine rgend ?_
   replace F := F.only [37, 8, 0, 1, 2, 4] (l' := [(37, _), (8, _), (0, _), (1, _), (2, _), (4, _)]) rfl
   refine wp_cond_true (F.ev rfl) ?_
   refine rg ?_
   refine as_ F (v := .int .i64 1) rfl fun a F => ?_
   refine rgend ?_
   replace F := F.only [10] (l' := [(10, _)]) rfl
   refine wp_ret ?_
   try dsimp only at h
   obtain ⟨rfl, rfl⟩ := Prod.mk.inj (Option.some.inj h)
   exact RET _ _ (ret1 F rfl rfl ⟨_, rfl, rfl, H.px3.px2.px1.px0.fx0⟩)
  rw [if_neg c6] at h
  rw [decide_eq_false c6] at F
  refine qw F (r_fa (off := 1) (F.t 8 rfl) fa32_1) fun a F => ?_
  refine qw F (r_ld (F.t 27 rfl) (cel_cell (o := 1) (H.cell 0 rfl) rfl) one29) fun a F => ?_
  obtain ⟨x7, e8, h⟩ := Option.bind_eq_some_iff.1 h
  try dsimp only at h
  refine ls (call F Try.func98 (ref17_State_ok (H.p0) e8) rfl rfl fun v w hR a F => ?_)
  obtain ⟨rfl, H⟩ := hR
  refine qw F (r_not (F.t 29 rfl)) fun a F => ?_
  refine qw F (r_pickF (F.t 26 rfl) (F.t 30 rfl)) fun a F => ?_
  refine mv F rfl fun a F => ?_
  by_cases c9 : x7 = true
  ·rw [if_pos c9] at h
   rw [c9] at F
   refine qw F (r_fa (off := 2) (F.t 8 rfl) fa32_2) fun a F => ?_
   refine qw F (r_ld (F.t 33 rfl) (cel_cell (o := 2) (H.cell 0 rfl) rfl) one30) fun a F => ?_
   refine qw F (r_len (F.t 34 rfl) Try.underlying30) fun a F => ?_
   refine qw F (r_gt (F.t 35 rfl) (F.k (.int .i64 1000))) fun a F => ?_
   refine qw F (r_pickF (F.t 32 rfl) (F.t 36 rfl)) fun a F => ?_
   refine rgend ?_
   replace F := F.only [37, 8, 0, 1, 2, 4] (l' := [(37, _), (8, _), (0, _), (1, _), (2, _), (4, _)]) rfl
   by_cases c10 : (a3.Kept.length : Int) > 1000
   ·rw [if_pos c10] at h
    rw [decide_eq_true c10] at F
    refine wp_cond_true (F.ev rfl) ?_
    refine rg ?_
    refine as_ F (v := .int .i64 1) rfl fun a F => ?_
    refine rgend ?_
    replace F := F.only [10] (l' := [(10, _)]) rfl
    refine wp_ret ?_
    try dsimp only at h
    obtain ⟨rfl, rfl⟩ := Prod.mk.inj (Option.some.inj h)
    exact RET _ _ (ret1 F rfl rfl ⟨_, rfl, rfl, H.px3.px2.px1.px0.fx0⟩)
   rw [if_neg c10] at h
   rw [decide_eq_false c10] at F
   refine wp_cond_false (F.ev rfl) ?_
   refine wp_skip ?_
   refine rg ?_
   refine qw F (r_fa (off := 1) (F.t 8 rfl) fa32_1) fun a F => ?_
   refine qw F (r_ld (F.t 38 rfl) (cel_cell (o := 1) (H.cell 0 rfl) rfl) one29) fun a F => ?_
   obtain ⟨x11, e12, h⟩ := Option.bind_eq_some_iff.1 h
   try dsimp only at h
   refine ls (call F Try.func99 (ref17_Parts_ok (H.p0) e12) rfl rfl fun v w hR a F => ?_)
   obtain ⟨rfl, H⟩ := hR
   refine as_ F rfl fun a F => ?_
   refine rgend ?_
   replace F := F.only [11, 8, 0, 1, 2, 4] (l' := [(11, _), (8, _), (0, _), (1, _), (2, _), (4, _)]) rfl
   refine rg ?_
   refine mv F rfl fun a F => ?_
   refine qw F (r_fa (off := 2) (F.t 8 rfl) fa32_2) fun a F => ?_
   refine qw F (r_ld (F.t 42 rfl) (cel_cell (o := 2) (H.cell 0 rfl) rfl) one30) fun a F => ?_
   refine qw F (r_len (F.t 43 rfl) Try.underlying30) fun a F => ?_
   refine qw F (r_add (F.t 41 rfl) (F.t 44 rfl)) fun a F => ?_
   refine qw F (r_fa (off := 3) (F.t 8 rfl) fa32_3) fun a F => ?_
   refine qw F (r_ld (F.t 46 rfl) (cel_cell (o := 3) (H.cell 0 rfl) rfl) one30) fun a F => ?_
   refine qw F (r_len (F.t 47 rfl) Try.underlying30) fun a F => ?_
   refine qw F (r_add (F.t 45 rfl) (F.t 48 rfl)) fun a F => ?_
   refine as_ F rfl fun a F => ?_
   refine rgend ?_
   replace F := F.only [12, 11, 8, 0, 1, 2, 4] (l' := [(12, _), (11, _), (8, _), (0, _), (1, _), (2, _), (4, _)]) rfl
   refine wp_seq ?_
   refine rg ?_
   iterate 2 refine mv F rfl fun a F => ?_
   refine qw F (r_ge (F.t 50 rfl) (F.t 51 rfl)) fun a F => ?_
   refine rgend ?_
   by_cases c13 : (IntKind.i64.wrap ((IntKind.i64.wrap (x11 + (a3.Kept.length : Int))) + (a3.More.length : Int))) ≥ a2
   ·rw [if_pos c13] at h
    rw [decide_eq_true c13] at F
    refine wp_cond_true (F.ev rfl) ?_
    refine rg ?_
    refine as_ F (v := .int .i64 5) rfl fun a F => ?_
    refine rgend ?_
    replace F := F.only [10] (l' := [(10, _)]) rfl
    refine wp_ret ?_
    try dsimp only at h
    obtain ⟨rfl, rfl⟩ := Prod.mk.inj (Option.some.inj h)
    exact RET _ _ (ret1 F rfl rfl ⟨_, rfl, rfl, H.px3.px2.px1.px0.fx0⟩)
   rw [if_neg c13] at h
   rw [decide_eq_false c13] at F
   refine wp_cond_false (F.ev rfl) ?_
   refine wp_skip ?_
   refine rg ?_
   iterate 3 refine mv F rfl fun a F => ?_
   refine qw F (r_add (F.t 54 rfl) (F.t 55 rfl)) fun a F => ?_
   refine qw F (r_fa (off := 0) (F.t 8 rfl) fa32_0) fun a F => ?_
   refine qw F (r_ld (F.t 57 rfl) (cel_cell (o := 0) (H.cell 0 rfl) rfl) one2) fun a F => ?_
   iterate 2 refine mv F rfl fun a F => ?_
   refine qw F (r_fa (off := 2) (F.t 8 rfl) fa32_2) fun a F => ?_
   refine qw F (r_ld (F.t 61 rfl) (cel_cell (o := 2) (H.cell 0 rfl) rfl) one30) fun a F => ?_
   refine qw F (r_len (F.t 62 rfl) Try.underlying30) fun a F => ?_
   refine mv F rfl fun a F => ?_
   refine ls (lbd F (vs := [(0, .int .i64 a3.Gen), (1, .int .i64 (IntKind.i64.wrap ((IntKind.i64.wrap (x11 + (a3.Kept.length : Int))) + (a3.More.length : Int)))), (2, .int .i64 x11), (3, .int .i64 (a3.Kept.length : Int)), (4, .slice A4_ a4.length c4_)]) (cs := [.int .i64 a3.Gen, .int .i64 (IntKind.i64.wrap ((IntKind.i64.wrap (x11 + (a3.Kept.length : Int))) + (a3.More.length : Int))), .int .i64 x11, .int .i64 (a3.Kept.length : Int), .slice A4_ a4.length c4_]) rfl (fun w => by kernel_rfl) fun a F => ?_)
   obtain ⟨x14, e15, h⟩ := Option.bind_eq_some_iff.1 h
   try dsimp only at h
   refine ls (call F Try.func27 (ref16_Put_ok (a0 := (⟨a3.Gen, IntKind.i64.wrap ((IntKind.i64.wrap (x11 + (a3.Kept.length : Int))) + (a3.More.length : Int)), x11, (a3.Kept.length : Int), a4⟩ : api_Sector)) (H.p3) e15) rfl rfl fun v w hR a F => ?_)
   obtain ⟨A16, c17, rfl, H⟩ := hR
   obtain ⟨⟨x18, x19⟩, e20, h⟩ := Option.bind_eq_some_iff.1 h
   try dsimp only at h
   refine ls (call F Try.func28 (ref15_Disk_Write_ok (H.p0.f1) e20) rfl rfl fun v w hR a F => ?_)
   obtain ⟨rfl, H⟩ := hR
   refine as_ F rfl fun a F => ?_
   refine rgend ?_
   replace F := F.only [10] (l' := [(10, _)]) rfl
   refine wp_ret ?_
   try dsimp only at h
   obtain ⟨rfl, rfl⟩ := Prod.mk.inj (Option.some.inj h)
   exact RET _ _ (ret1 F rfl rfl ⟨_, rfl, rfl, H.px4.px3.px2.px1.px0.fx1⟩)
  rw [if_neg c9] at h
  rw [Bool.eq_false_iff.2 c9] at F
  iterate 4 refine of_ F fun a F => ?_
  refine qw F (r_pickT (F.t 32 rfl) (F.k (.bool true))) fun a F => ?_
  refine rgend ?_
  replace F := F.only [37, 8, 0, 1, 2, 4] (l' := [(37, _), (8, _), (0, _), (1, _), (2, _), (4, _)]) rfl
  refine wp_cond_true (F.ev rfl) ?_
  refine rg ?_
  refine as_ F (v := .int .i64 1) rfl fun a F => ?_
  refine rgend ?_
  replace F := F.only [10] (l' := [(10, _)]) rfl
  refine wp_ret ?_
  try dsimp only at h
  obtain ⟨rfl, rfl⟩ := Prod.mk.inj (Option.some.inj h)
  exact RET _ _ (ret1 F rfl rfl ⟨_, rfl, rfl, H.px3.px2.px1.px0.fx0⟩)
 rw [if_neg c4] at h
 rw [Bool.eq_false_iff.2 c4] at F
 iterate 3 refine of_ F fun a F => ?_
 refine qw F (r_pickT (F.t 16 rfl) (F.k (.bool true))) fun a F => ?_
 refine mv F rfl fun a F => ?_
 iterate 3 refine of_ F fun a F => ?_
 refine qw F (r_pickT (F.t 21 rfl) (F.k (.bool true))) fun a F => ?_
 refine mv F rfl fun a F => ?_
 iterate 4 refine of_ F fun a F => ?_
 refine qw F (r_pickT (F.t 26 rfl) (F.k (.bool true))) fun a F => ?_
 refine mv F rfl fun a F => ?_
 iterate 4 refine of_ F fun a F => ?_
 refine qw F (r_pickT (F.t 32 rfl) (F.k (.bool true))) fun a F => ?_
 refine rgend ?_
 replace F := F.only [37, 8, 0, 1, 2, 4] (l' := [(37, _), (8, _), (0, _), (1, _), (2, _), (4, _)]) rfl
 refine wp_cond_true (F.ev rfl) ?_
 refine rg ?_
 refine as_ F (v := .int .i64 1) rfl fun a F => ?_
 refine rgend ?_
 replace F := F.only [10] (l' := [(10, _)]) rfl
 refine wp_ret ?_
 try dsimp only at h
 obtain ⟨rfl, rfl⟩ := Prod.mk.inj (Option.some.inj h)
 exact RET _ _ (ret1 F rfl rfl ⟨_, rfl, rfl, H.px3.px2.px1.px0.fx0⟩)
def ref18_half_f (a0 : ref15_Disk) : Option (Int) :=
 ((ref15_Disk_Sectors_f a0).bind fun x1 => some ((IntKind.i64.wrap (x1.tdiv 2))))
theorem ref18_half_ok {w0 w : World} {ps : List PF} {fs : List SF} {a0 : ref15_Disk} {g0_ : Nat} {r0 : Int} (H : Hp w0 ps (obj_ref15_Disk g0_ a0 :: fs) w) (h : ref18_half_f a0 = some r0) :
  Calls Try.prog 62 [pt g0_].toArray w fun e w' => ∃ v, e = .returned v ∧ v = .int .i64 r0 ∧ Hp w0 ps (obj_ref15_Disk g0_ a0 :: fs) w' := by
 refine enter [pt g0_] 6 Try.func62 fun Q a NP RET NRM F => ?_
 replace NP := np NP
 unfold ref18_half_f at h
 refine rg ?_
 refine as_ F (v := .int .i64 0) rfl fun a F => ?_
 refine rgend ?_
 refine rg ?_
 refine mv F rfl fun a F => ?_
 obtain ⟨x1, e2, h⟩ := Option.bind_eq_some_iff.1 h
 try dsimp only at h
 refine ls (call F Try.func63 (ref15_Disk_Sectors_ok (H) e2) rfl rfl fun v w hR a F => ?_)
 obtain ⟨rfl, H⟩ := hR
 refine qw F (r_quo (F.t 4 rfl) (F.k (.int .i64 2)) (by decide)) fun a F => ?_
 refine as_ F rfl fun a F => ?_
 refine rgend ?_
 replace F := F.only [2] (l' := [(2, _)]) rfl
 refine wp_ret ?_
 try dsimp only at h
 obtain rfl := Option.some.inj h
 exact RET _ _ (ret1 F rfl rfl ⟨_, rfl, rfl, H⟩)
def ref18_Open_f (a0 : ref15_Disk) : Option (ref18_Store) :=
 ((ref18_half_f a0).bind fun x1 => ((ref17_Read_f a0 0 x1).bind fun (x3, x4) => ((ref18_half_f a0).bind fun x13 => ((ref18_half_f a0).bind fun x15 => ((ref17_Read_f a0 x13 x15).bind fun (x17, x18) => (((if x4 = true then some (true, (⟨x3, true, 0, false, false⟩ : ref18_Store)) else some (false, (⟨⟨0, [], [], []⟩, false, 0, false, false⟩ : ref18_Store))) : Option (Bool × ref18_Store)).bind fun (x28, x29) => (((if x18 = true then (if x28 = true then some ((decide (x17.Gen > x3.Gen))) else some true) else some false) : Option (Bool)).bind fun x32 => (((if x32 = true then some ((⟨x17, true, 1, x29.Begun, x29.Broken⟩ : ref18_Store)) else some x29) : Option (ref18_Store)).bind fun x36 => some x36))))))))
theorem ref18_Open_ok {w0 w : World} {ps : List PF} {fs : List SF} {a0 : ref15_Disk} {g0_ : Nat} {r0 : ref18_Store} (H : Hp w0 ps (obj_ref15_Disk g0_ a0 :: fs) w) (h : ref18_Open_f a0 = some r0) :
  Calls Try.prog 31 [pt g0_].toArray w fun e w' => ∃ v, e = .returned v ∧ ∃ (g0 : Nat), v = .pointer (some ⟨g0, 0, none⟩) ∧ Hp w0 ps (obj_ref18_Store g0 g0_ r0 :: obj_ref15_Disk g0_ a0 :: fs) w' := by
 refine enter [pt g0_] 58 Try.func31 fun Q a NP RET NRM F => ?_
 replace NP := np NP
 unfold ref18_Open_f at h
 refine rg ?_
 refine as_ F (v := .pointer none) rfl fun a F => ?_
 refine rgend ?_
 refine rg ?_
 iterate 2 refine mv F rfl fun a F => ?_
 obtain ⟨x1, e2, h⟩ := Option.bind_eq_some_iff.1 h
 try dsimp only at h
 refine ls (call F Try.func62 (ref18_half_ok (H) e2) rfl rfl fun v w hR a F => ?_)
 obtain ⟨rfl, H⟩ := hR
 obtain ⟨⟨x3, x4⟩, e5, h⟩ := Option.bind_eq_some_iff.1 h
 try dsimp only at h
 refine ls (call F Try.func61 (ref17_Read_ok (H) e5) rfl rfl fun v w hR a F => ?_)
 obtain ⟨A6, c7, A8, c9, A10, c11, rfl, H⟩ := hR
 refine mv F rfl fun a F => ?_
 iterate 2 refine qw F (r_ex (F.t 8 rfl) rfl) fun a F => ?_
 refine ls (lal F H ti32 (cs := [.int .i64 0, .slice none 0 0, .slice none 0 0, .slice none 0 0]) rfl fun g12 w a H F => ?_)
 refine stF F [.int .i64 x3.Gen, .slice A6 x3.State.length c7, .slice A8 x3.Kept.length c9, .slice A10 x3.More.length c11] H rfl rfl sz32 fun w a H F => ?_
 refine as_ F rfl fun a F => ?_
 refine rgend ?_
 replace F := F.only [4, 3, 0] (l' := [(4, _), (3, _), (0, _)]) rfl
 refine rg ?_
 iterate 2 refine mv F rfl fun a F => ?_
 obtain ⟨x13, e14, h⟩ := Option.bind_eq_some_iff.1 h
 try dsimp only at h
 refine ls (call F Try.func62 (ref18_half_ok (H.f1) e14) rfl rfl fun v w hR a F => ?_)
 obtain ⟨rfl, H⟩ := hR
 refine mv F rfl fun a F => ?_
 obtain ⟨x15, e16, h⟩ := Option.bind_eq_some_iff.1 h
 try dsimp only at h
 refine ls (call F Try.func62 (ref18_half_ok (H) e16) rfl rfl fun v w hR a F => ?_)
 obtain ⟨rfl, H⟩ := hR
 obtain ⟨⟨x17, x18⟩, e19, h⟩ := Option.bind_eq_some_iff.1 h
 try dsimp only at h
 refine ls (call F Try.func61 (ref17_Read_ok (H) e19) rfl rfl fun v w hR a F => ?_)
 obtain ⟨A20, c21, A22, c23, A24, c25, rfl, H⟩ := hR
 refine mv F rfl fun a F => ?_
 iterate 2 refine qw F (r_ex (F.t 15 rfl) rfl) fun a F => ?_
 refine ls (lal F H ti32 (cs := [.int .i64 0, .slice none 0 0, .slice none 0 0, .slice none 0 0]) rfl fun g26 w a H F => ?_)
 refine stF F [.int .i64 x17.Gen, .slice A20 x17.State.length c21, .slice A22 x17.Kept.length c23, .slice A24 x17.More.length c25] H rfl rfl sz32 fun w a H F => ?_
 refine as_ F rfl fun a F => ?_
 refine rgend ?_
 replace F := F.only [6, 5, 4, 3, 0] (l' := [(6, _), (5, _), (4, _), (3, _), (0, _)]) rfl
 refine rg ?_
 refine mv F rfl fun a F => ?_
 refine ls (lbd F (vs := [(0, pt g0_)]) (cs := [pt g0_, .int .i64 0, .slice none 0 0, .slice none 0 0, .slice none 0 0, .bool false, .int .i64 0, .bool false, .bool false]) rfl (fun w => by kernel_rfl) fun a F => ?_)
 refine ls (lbox F H rfl (cs := [pt g0_, .int .i64 0, .slice none 0 0, .slice none 0 0, .slice none 0 0, .bool false, .int .i64 0, .bool false, .bool false]) rfl fun g27 w a H F => ?_)
 refine as_ F rfl fun a F => ?_
 refine rgend ?_
 replace F := F.only [7, 6, 5, 4, 3] (l' := [(7, _), (6, _), (5, _), (4, _), (3, _)]) rfl
 refine wp_seq ?_
 refine rg ?_
 refine mv F rfl fun a F => ?_
 refine rgend ?_
 obtain ⟨o_29, k_29, h⟩ := Option.bind_eq_some_iff.1 h
 refine cut (fun a w => ∃ (x28 : Bool) (x29 : ref18_Store), (x28, x29) = o_29 ∧ Fr 58 [] [(3, pt g12), (4, .bool x28), (5, pt g26), (6, .bool x18), (7, pt g27)] a ∧ Hp w0 (rd kByte A6 c7 x3.State :: rd (kSlice kByte) A8 c9 x3.Kept :: rd (kSlice kByte) A10 c11 x3.More :: rd kByte A20 c21 x17.State :: rd (kSlice kByte) A22 c23 x17.Kept :: rd (kSlice kByte) A24 c25 x17.More :: ps) (obj_ref18_Store g27 g0_ x29 :: cel g12 [.int .i64 x3.Gen, .slice A6 x3.State.length c7, .slice A8 x3.Kept.length c9, .slice A10 x3.More.length c11] 32 :: obj_ref15_Disk g0_ a0 :: cel g26 [.int .i64 x17.Gen, .slice A20 x17.State.length c21, .slice A22 x17.Kept.length c23, .slice A24 x17.More.length c25] 32 :: fs) w) ?_ ?_
 ·skip
  by_cases c31 : x4 = true
  ·rw [if_pos c31] at k_29
   rw [c31] at F
   refine wp_cond_true (F.ev rfl) ?_
   refine rg ?_
   refine mv F rfl fun a F => ?_
   refine qw F (r_ldA (F.t 3 rfl) (cel_range (o := 0) (n := 4) (vs := [.int .i64 x3.Gen, .slice A6 x3.State.length c7, .slice A8 x3.Kept.length c9, .slice A10 x3.More.length c11]) (H.cell 3 rfl) rfl) agg32 rfl) fun a F => ?_
   refine qw F (r_nc (F.t 28 rfl)) fun a F => ?_
   refine qw F (r_fa (off := 1) (F.t 30 rfl) fa101_1) fun a F => ?_
   refine sto F [.int .i64 x3.Gen, .slice A6 x3.State.length c7, .slice A8 x3.Kept.length c9, .slice A10 x3.More.length c11] [.pointer (some ⟨g0_, 0, none⟩), .int .i64 x3.Gen, .slice A6 x3.State.length c7, .slice A8 x3.Kept.length c9, .slice A10 x3.More.length c11, .bool false, .int .i64 0, .bool false, .bool false] H rfl rfl sz32 fun w a H F => ?_
   refine rgend ?_
   replace F := F.only [7, 6, 5, 4, 3] (l' := [(7, _), (6, _), (5, _), (4, _), (3, _)]) rfl
   refine wp_region_lit ?_
   refine mv F rfl fun a F => ?_
   refine qw F (r_nc (F.t 32 rfl)) fun a F => ?_
   refine qw F (r_fa (off := 5) (F.t 33 rfl) fa101_2) fun a F => ?_
   refine sto F [.bool true] [.pointer (some ⟨g0_, 0, none⟩), .int .i64 x3.Gen, .slice A6 x3.State.length c7, .slice A8 x3.Kept.length c9, .slice A10 x3.More.length c11, .bool true, .int .i64 0, .bool false, .bool false] H rfl rfl sz4 fun w a H F => ?_
   refine wpList_nil ?_
   replace H := Hp.closeO_ref18_Store (x := (⟨x3, true, 0, false, false⟩ : ref18_Store)) (H) 3 rfl 4 rfl 5 rfl
   try dsimp only at k_29
   obtain rfl := Option.some.inj k_29
   exact ⟨_, _, rfl, F.only [3, 4, 5, 6, 7] rfl, H.p2.p2.p2.p8.p8.p8.px6.px6.px6.px6.px6.px6.f1.f2.f3.f3⟩
  rw [if_neg c31] at k_29
  rw [Bool.eq_false_iff.2 c31] at F
  refine wp_cond_false (F.ev rfl) ?_
  refine wp_skip ?_
  replace H := H.nilRd kByte
  replace H := H.nilRd (kSlice kByte)
  replace H := Hp.closeO_ref18_Store (x := (⟨⟨0, [], [], []⟩, false, 0, false, false⟩ : ref18_Store)) (H) 1 rfl 0 rfl 0 rfl
  try dsimp only at k_29
  obtain rfl := Option.some.inj k_29
  exact ⟨_, _, rfl, F.only [3, 4, 5, 6, 7] rfl, H.p4.p4.p4.p10.p10.p10.px6.px6.px6.px6.px6.px6.px6.px6.f1.f2.f3.f3⟩
 rintro a w ⟨x28, x29, rfl, F, H⟩
 try dsimp only at h F H
 iterate 2 refine wp_seq ?_
 obtain ⟨o_32, k_32, h⟩ := Option.bind_eq_some_iff.1 h
 refine cut (fun a w => ∃ (x32 : Bool), x32 = o_32 ∧ Fr 58 [] [(5, pt g26), (7, pt g27), (46, .bool x32)] a ∧ Hp w0 (rd kByte A20 c21 x17.State :: rd (kSlice kByte) A22 c23 x17.Kept :: rd (kSlice kByte) A24 c25 x17.More :: ps) (obj_ref18_Store g27 g0_ x29 :: cel g26 [.int .i64 x17.Gen, .slice A20 x17.State.length c21, .slice A22 x17.Kept.length c23, .slice A24 x17.More.length c25] 32 :: obj_ref15_Disk g0_ a0 :: fs) w) ?_ ?_
 ·skip
  refine wp_region_lit ?_
  iterate 2 refine mv F rfl fun a F => ?_
  by_cases c34 : x18 = true
  ·rw [if_pos c34] at k_32
   rw [c34] at F
   refine mv F rfl fun a F => ?_
   refine qw F (r_not (F.t 37 rfl)) fun a F => ?_
   refine mv F rfl fun a F => ?_
   by_cases c35 : x28 = true
   ·rw [if_pos c35] at k_32
    rw [c35] at F
    refine qw F (r_fa (off := 0) (F.t 5 rfl) fa32_0) fun a F => ?_
    refine qw F (r_ld (F.t 40 rfl) (cel_cell (o := 0) (H.cell 3 rfl) rfl) one2) fun a F => ?_
    refine qw F (r_fa (off := 0) (F.t 3 rfl) fa32_0) fun a F => ?_
    refine qw F (r_ld (F.t 42 rfl) (cel_cell (o := 0) (H.cell 1 rfl) rfl) one2) fun a F => ?_
    refine qw F (r_gt (F.t 41 rfl) (F.t 43 rfl)) fun a F => ?_
    refine qw F (r_pickF (F.t 39 rfl) (F.t 44 rfl)) fun a F => ?_
    refine qw F (r_pickT (F.t 36 rfl) (F.t 45 rfl)) fun a F => ?_
    refine wpList_nil ?_
    replace F := F.only [46, 5, 7] (l' := [(46, _), (5, _), (7, _)]) rfl
    try dsimp only at k_32
    obtain rfl := Option.some.inj k_32
    exact ⟨_, rfl, F.only [5, 7, 46] rfl, H.px2.px1.px0.f2.f3.f2.fx3⟩
   rw [if_neg c35] at k_32
   rw [Bool.eq_false_iff.2 c35] at F
   iterate 5 refine of_ F fun a F => ?_
   refine qw F (r_pickT (F.t 39 rfl) (F.k (.bool true))) fun a F => ?_
   refine qw F (r_pickT (F.t 36 rfl) (F.t 45 rfl)) fun a F => ?_
   refine wpList_nil ?_
   replace F := F.only [46, 5, 7] (l' := [(46, _), (5, _), (7, _)]) rfl
   try dsimp only at k_32
   obtain rfl := Option.some.inj k_32
   exact ⟨_, rfl, F.only [5, 7, 46] rfl, H.px2.px1.px0.f2.f3.f2.fx3⟩
  rw [if_neg c34] at k_32
  rw [Bool.eq_false_iff.2 c34] at F
  iterate 9 refine of_ F fun a F => ?_
  refine qw F (r_pickF (F.t 36 rfl) (F.k (.bool false))) fun a F => ?_
  refine wpList_nil ?_
  replace F := F.only [46, 5, 7] (l' := [(46, _), (5, _), (7, _)]) rfl
  try dsimp only at k_32
  obtain rfl := Option.some.inj k_32
  exact ⟨_, rfl, F.only [5, 7, 46] rfl, H.px2.px1.px0.f2.f3.f2.fx3⟩
 rintro a w ⟨x32, rfl, F, H⟩
 try dsimp only at h F H
 obtain ⟨o_36, k_36, h⟩ := Option.bind_eq_some_iff.1 h
 refine cut (fun a w => ∃ (x36 : ref18_Store), x36 = o_36 ∧ Fr 58 [] [(7, pt g27)] a ∧ Hp w0 ps (obj_ref18_Store g27 g0_ x36 :: obj_ref15_Disk g0_ a0 :: fs) w) ?_ ?_
 ·skip
  by_cases c38 : x32 = true
  ·rw [if_pos c38] at k_36
   rw [c38] at F
   refine wp_cond_true (F.ev rfl) ?_
   refine rg ?_
   refine mv F rfl fun a F => ?_
   refine qw F (r_ldA (F.t 5 rfl) (cel_range (o := 0) (n := 4) (vs := [.int .i64 x17.Gen, .slice A20 x17.State.length c21, .slice A22 x17.Kept.length c23, .slice A24 x17.More.length c25]) (H.cell 1 rfl) rfl) agg32 rfl) fun a F => ?_
   refine qw F (r_nc (F.t 47 rfl)) fun a F => ?_
   refine qw F (r_fa (off := 1) (F.t 49 rfl) fa101_1) fun a F => ?_
   obtain ⟨A39, c40, A41, c42, A43, c44, H⟩ := Hp.openO_ref18_Store (H)
   refine sto F [.int .i64 x17.Gen, .slice A20 x17.State.length c21, .slice A22 x17.Kept.length c23, .slice A24 x17.More.length c25] [.pointer (some ⟨g0_, 0, none⟩), .int .i64 x17.Gen, .slice A20 x17.State.length c21, .slice A22 x17.Kept.length c23, .slice A24 x17.More.length c25, .bool x29.Is, .int .i64 x29.Half, .bool x29.Begun, .bool x29.Broken] H rfl rfl sz32 fun w a H F => ?_
   refine rgend ?_
   replace F := F.only [7] (l' := [(7, _)]) rfl
   refine rg ?_
   refine mv F rfl fun a F => ?_
   refine qw F (r_nc (F.t 51 rfl)) fun a F => ?_
   refine qw F (r_fa (off := 5) (F.t 52 rfl) fa101_2) fun a F => ?_
   refine sto F [.bool true] [.pointer (some ⟨g0_, 0, none⟩), .int .i64 x17.Gen, .slice A20 x17.State.length c21, .slice A22 x17.Kept.length c23, .slice A24 x17.More.length c25, .bool true, .int .i64 x29.Half, .bool x29.Begun, .bool x29.Broken] H rfl rfl sz4 fun w a H F => ?_
   refine rgend ?_
   refine wp_region_lit ?_
   refine mv F rfl fun a F => ?_
   refine qw F (r_nc (F.t 54 rfl)) fun a F => ?_
   refine qw F (r_fa (off := 6) (F.t 55 rfl) fa101_3) fun a F => ?_
   refine sto F [.int .i64 1] [.pointer (some ⟨g0_, 0, none⟩), .int .i64 x17.Gen, .slice A20 x17.State.length c21, .slice A22 x17.Kept.length c23, .slice A24 x17.More.length c25, .bool true, .int .i64 1, .bool x29.Begun, .bool x29.Broken] H rfl rfl sz3 fun w a H F => ?_
   refine wpList_nil ?_
   replace F := F.only [7] (l' := [(7, _)]) rfl
   replace H := Hp.closeO_ref18_Store (x := (⟨x17, true, 1, x29.Begun, x29.Broken⟩ : ref18_Store)) (H) 3 rfl 4 rfl 5 rfl
   try dsimp only at k_36
   obtain rfl := Option.some.inj k_36
   exact ⟨_, rfl, F.only [7] rfl, H.px5.px4.px3.px2.px1.px0.fx1⟩
  rw [if_neg c38] at k_36
  rw [Bool.eq_false_iff.2 c38] at F
  refine wp_cond_false (F.ev rfl) ?_
  refine wp_skip ?_
  try dsimp only at k_36
  obtain rfl := Option.some.inj k_36
  exact ⟨_, rfl, F.only [7] rfl, H.px2.px1.px0.fx1⟩
 rintro a w ⟨x36, rfl, F, H⟩
 try dsimp only at h F H
 refine rg ?_
 refine mv F rfl fun a F => ?_
 refine as_ F rfl fun a F => ?_
 refine rgend ?_
 refine wp_ret ?_
 try dsimp only at h
 obtain rfl := Option.some.inj h
 exact RET _ _ (ret1 F rfl rfl ⟨_, rfl, g27, rfl, H⟩)
def ref18_Store_Has_f (a0 : ref18_Store) : Option (Bool) :=
 some a0.Is
theorem ref18_Store_Has_ok {w0 w : World} {ps : List PF} {fs : List SF} {a0 : ref18_Store} {g0_ : Nat} {gx_ : Nat} {r0 : Bool} (H : Hp w0 ps (obj_ref18_Store g0_ gx_ a0 :: fs) w) (h : ref18_Store_Has_f a0 = some r0) :
  Calls Try.prog 67 [pt g0_].toArray w fun e w' => ∃ v, e = .returned v ∧ v = .bool r0 ∧ Hp w0 ps (obj_ref18_Store g0_ gx_ a0 :: fs) w' := by
 refine enter [pt g0_] 7 Try.func67 fun Q a NP RET NRM F => ?_
 replace NP := np NP
 unfold ref18_Store_Has_f at h
 refine rg ?_
 refine as_ F (v := .bool false) rfl fun a F => ?_
 refine rgend ?_
 refine rg ?_
 refine mv F rfl fun a F => ?_
 refine qw F (r_nc (F.t 3 rfl)) fun a F => ?_
 refine qw F (r_fa (off := 5) (F.t 4 rfl) fa101_2) fun a F => ?_
 obtain ⟨A1, c2, A3, c4, A5, c6, H⟩ := Hp.openO_ref18_Store (H)
 refine qw F (r_ld (F.t 5 rfl) (cel_cell (o := 5) (H.cell 0 rfl) rfl) one4) fun a F => ?_
 refine as_ F rfl fun a F => ?_
 refine rgend ?_
 replace F := F.only [2] (l' := [(2, _)]) rfl
 refine wp_ret ?_
 replace H := Hp.closeO_ref18_Store (x := a0) (H) 0 rfl 1 rfl 2 rfl
 try dsimp only at h
 obtain rfl := Option.some.inj h
 exact RET _ _ (ret1 F rfl rfl ⟨_, rfl, rfl, H.px2.px1.px0⟩)
def ref18_Store_Gen_f (a0 : ref18_Store) : Option (Int) :=
 some a0.R.Gen
theorem ref18_Store_Gen_ok {w0 w : World} {ps : List PF} {fs : List SF} {a0 : ref18_Store} {g0_ : Nat} {gx_ : Nat} {r0 : Int} (H : Hp w0 ps (obj_ref18_Store g0_ gx_ a0 :: fs) w) (h : ref18_Store_Gen_f a0 = some r0) :
  Calls Try.prog 68 [pt g0_].toArray w fun e w' => ∃ v, e = .returned v ∧ v = .int .i64 r0 ∧ Hp w0 ps (obj_ref18_Store g0_ gx_ a0 :: fs) w' := by
 refine enter [pt g0_] 8 Try.func68 fun Q a NP RET NRM F => ?_
 replace NP := np NP
 unfold ref18_Store_Gen_f at h
 refine rg ?_
 refine as_ F (v := .int .i64 0) rfl fun a F => ?_
 refine rgend ?_
 refine rg ?_
 refine mv F rfl fun a F => ?_
 refine qw F (r_nc (F.t 3 rfl)) fun a F => ?_
 refine qw F (r_fa (off := 1) (F.t 4 rfl) fa101_1) fun a F => ?_
 refine qw F (r_fa (off := 0) (F.t 5 rfl) fa32_0) fun a F => ?_
 obtain ⟨A1, c2, A3, c4, A5, c6, H⟩ := Hp.openO_ref18_Store (H)
 refine qw F (r_ld (F.t 6 rfl) (cel_cell (o := 1) (H.cell 0 rfl) rfl) one2) fun a F => ?_
 refine as_ F rfl fun a F => ?_
 refine rgend ?_
 replace F := F.only [2] (l' := [(2, _)]) rfl
 refine wp_ret ?_
 replace H := Hp.closeO_ref18_Store (x := a0) (H) 0 rfl 1 rfl 2 rfl
 try dsimp only at h
 obtain rfl := Option.some.inj h
 exact RET _ _ (ret1 F rfl rfl ⟨_, rfl, rfl, H.px2.px1.px0⟩)
def ref18_Store_State_f (a0 : ref18_Store) : Option (List Int) :=
 (if (0 + a0.R.State.length) * 1 ≤ 140737488355328 then some a0.R.State else none)
theorem ref18_Store_State_ok {w0 w : World} {ps : List PF} {fs : List SF} {a0 : ref18_Store} {g0_ : Nat} {gx_ : Nat} {r0 : List Int} (H : Hp w0 ps (obj_ref18_Store g0_ gx_ a0 :: fs) w) (h : ref18_Store_State_f a0 = some r0) :
  Calls Try.prog 69 [pt g0_].toArray w fun e w' => ∃ v, e = .returned v ∧ ∃ (A0 : Option Addr) (c0 : Nat), v = .slice A0 r0.length c0 ∧ Hp w0 ps (own kByte 5 A0 c0 r0 :: obj_ref18_Store g0_ gx_ a0 :: fs) w' := by
 refine enter [pt g0_] 10 Try.func69 fun Q a NP RET NRM F => ?_
 replace NP := np NP
 unfold ref18_Store_State_f at h
 refine rg ?_
 refine as_ F (v := .slice none 0 0) rfl fun a F => ?_
 refine rgend ?_
 refine rg ?_
 refine ls (lbs F H (e := 5) (vs := []) (cs := []) rfl (fun w => by kernel_rfl) fun g1 w a H F => ?_)
 refine mv F rfl fun a F => ?_
 refine qw F (r_nc (F.t 4 rfl)) fun a F => ?_
 refine qw F (r_fa (off := 1) (F.t 5 rfl) fa101_1) fun a F => ?_
 refine qw F (r_fa (off := 1) (F.t 6 rfl) fa32_1) fun a F => ?_
 obtain ⟨A2, c3, A4, c5, A6, c7, H⟩ := Hp.openO_ref18_Store (H.f1)
 refine qw F (r_ld (F.t 7 rfl) (cel_cell (o := 2) (H.cell 0 rfl) rfl) one29) fun a F => ?_
 replace H := Hp.litOwn (kd := kByte) (xs := []) (H.f1) (SayL.nil) (Nat.le_of_ble_eq_true rfl)
 obtain ⟨c8, h⟩ := guardO h
 obtain ⟨A9, c10, _, hr, H⟩ := Hp.appendRd (kd := kByte) (xs := []) (ys := a0.R.State) (H) 0 rfl (F.t 3 rfl) (F.t 8 rfl) Try.underlying29 ti5 rfl (by decide) (by decide) c8
 rw [List.nil_append] at hr H
 refine qw F (hr _ _ _ _ _) fun a F => ?_
 refine as_ F rfl fun a F => ?_
 refine rgend ?_
 replace F := F.only [2] (l' := [(2, _)]) rfl
 refine wp_ret ?_
 replace H := Hp.closeO_ref18_Store (x := a0) (H.f1) 0 rfl 1 rfl 2 rfl
 try dsimp only at h
 obtain rfl := Option.some.inj h
 exact RET _ _ (ret1 F rfl rfl ⟨_, rfl, A9, c10, rfl, H.px2.px1.px0.f1⟩)
def ref18_Store_Entries_b1 (a0 : ref18_Store) : ((List (List Int)) × Int) → Option ((List (List Int)) × Int ⊕ List (List Int))
 | (x30, x33) => (if x33 < (a0.R.More.length : Int) then (if 0 ≤ x33 ∧ x33 < (a0.R.More.length : Int) then (if (0 + ((a0.R.More.getD (x33 : Int).toNat [])).length) * 1 ≤ 140737488355328 then (if (x30.length + 1) * 24 ≤ 140737488355328 then some (.inl ((x30 ++ ([(a0.R.More.getD (x33 : Int).toNat [])])), IntKind.i64.wrap (x33 + 1))) else none) else none) else none) else some (.inr x30))
def ref18_Store_Entries_b0 (a0 : ref18_Store) : ((List (List Int)) × Int) → Option ((List (List Int)) × Int ⊕ List (List Int))
 | (x1, x4) => (if x4 < (a0.R.Kept.length : Int) then (if 0 ≤ x4 ∧ x4 < (a0.R.Kept.length : Int) then (if (0 + ((a0.R.Kept.getD (x4 : Int).toNat [])).length) * 1 ≤ 140737488355328 then (if (x1.length + 1) * 24 ≤ 140737488355328 then some (.inl ((x1 ++ ([(a0.R.Kept.getD (x4 : Int).toNat [])])), IntKind.i64.wrap (x4 + 1))) else none) else none) else none) else some (.inr x1))
def ref18_Store_Entries_f (a0 : ref18_Store) : Option (List (List Int)) :=
 ((lp (ref18_Store_Entries_b0 a0) ([], 0)).bind fun x5 => ((lp (ref18_Store_Entries_b1 a0) (x5, 0)).bind fun x34 => some x34))
theorem ref18_Store_Entries_ok {w0 w : World} {ps : List PF} {fs : List SF} {a0 : ref18_Store} {g0_ : Nat} {gx_ : Nat} {r0 : List (List Int)} (H : Hp w0 ps (obj_ref18_Store g0_ gx_ a0 :: fs) w) (h : ref18_Store_Entries_f a0 = some r0) :
  Calls Try.prog 70 [pt g0_].toArray w fun e w' => ∃ v, e = .returned v ∧ ∃ (A0 : Option Addr) (c0 : Nat), v = .slice A0 r0.length c0 ∧ Hp w0 ps (own (kSlice kByte) 29 A0 c0 r0 :: obj_ref18_Store g0_ gx_ a0 :: fs) w' := by
 refine enter [pt g0_] 53 Try.func70 fun Q a NP RET NRM F => ?_
 replace NP := np NP
 unfold ref18_Store_Entries_f at h
 refine rg ?_
 refine as_ F (v := .slice none 0 0) rfl fun a F => ?_
 refine rgend ?_
 refine rg ?_
 refine as_ F (v := .slice none 0 0) rfl fun a F => ?_
 refine rgend ?_
 refine wp_seq ?_
 refine rg ?_
 refine as_ F (v := .int .i64 0) rfl fun a F => ?_
 refine rgend ?_
 replace H := H.nilOwn (kSlice kByte) 29
 obtain ⟨o_7, k_7, h⟩ := Option.bind_eq_some_iff.1 h
 refine cut (fun a w => ∃ (x5 : List (List Int)), x5 = o_7 ∧ ∃ (A6 : Option Addr) (c7 : Nat), Fr 53 [] [(0, pt g0_), (3, .slice A6 x5.length c7)] a ∧ Hp w0 ps (own (kSlice kByte) 29 A6 c7 x5 :: obj_ref18_Store g0_ gx_ a0 :: fs) w) (wp_block ?_) ?_
 ·refine wloop (ref18_Store_Entries_b0 a0) (fun (s : (List (List Int)) × Int) a w => ∃ (A2 : Option Addr) (c3 : Nat), Fr 53 [] [(0, pt g0_), (3, .slice A2 s.1.length c3), (4, .int .i64 s.2)] a ∧ Hp w0 ps (own (kSlice kByte) 29 A2 c3 s.1 :: obj_ref18_Store g0_ gx_ a0 :: fs) w) k_7 ⟨none, 0, F.only [0, 3, 4] rfl, H⟩ ?_
  rintro ⟨x1, x4⟩ a w q_7 j_7 u_7 ⟨A2, c3, F, H⟩
  unfold ref18_Store_Entries_b0 at j_7
  try dsimp only at j_7 F H
  refine wp_seq ?_
  refine rg ?_
  iterate 2 refine mv F rfl fun a F => ?_
  refine qw F (r_nc (F.t 7 rfl)) fun a F => ?_
  refine qw F (r_fa (off := 1) (F.t 8 rfl) fa101_1) fun a F => ?_
  refine qw F (r_fa (off := 2) (F.t 9 rfl) fa32_2) fun a F => ?_
  obtain ⟨A9, c10, A11, c12, A13, c14, H⟩ := Hp.openO_ref18_Store (H.f1)
  refine qw F (r_ld (F.t 10 rfl) (cel_cell (o := 3) (H.cell 0 rfl) rfl) one30) fun a F => ?_
  refine qw F (r_len (F.t 11 rfl) Try.underlying30) fun a F => ?_
  refine qw F (r_lt (F.t 6 rfl) (F.t 12 rfl)) fun a F => ?_
  refine rgend ?_
  replace F := F.only [13, 0, 3, 4] (l' := [(13, _), (0, _), (3, _), (4, _)]) rfl
  by_cases c15 : x4 < (a0.R.Kept.length : Int)
  ·rw [if_pos c15] at j_7
   rw [decide_eq_true c15] at F
   refine wp_cond_true (F.ev rfl) ?_
   refine wp_skip ?_
   refine wp_seq ?_
   refine wp_block ?_
   refine wp_region_lit ?_
   refine mv F rfl fun a F => ?_
   refine ls (lbs F H (e := 5) (vs := []) (cs := []) rfl (fun w => by kernel_rfl) fun g16 w a H F => ?_)
   refine mv F rfl fun a F => ?_
   refine qw F (r_nc (F.t 18 rfl)) fun a F => ?_
   refine qw F (r_fa (off := 1) (F.t 19 rfl) fa101_1) fun a F => ?_
   refine qw F (r_fa (off := 2) (F.t 20 rfl) fa32_2) fun a F => ?_
   refine qw F (r_ld (F.t 21 rfl) (cel_cell (o := 3) (H.cell 1 rfl) rfl) one30) fun a F => ?_
   refine mv F rfl fun a F => ?_
   obtain ⟨c17, j_7⟩ := guardO j_7
   obtain ⟨g18, o19, s20, hr, H⟩ := H.ix [] 1 rfl (F.t 22 rfl) (F.t 23 rfl) Try.underlying30 sz29 (by decide) c17.1 c17.2
   obtain ⟨A21, c22, rfl, H⟩ := H.says_slice 1 rfl
   refine qw F (hr _ _ _ _ _ _) fun a F => ?_
   refine qw F (r_ld (F.t 24 rfl) (range_cell (j := 0) (H.range 1 rfl) rfl) one29) fun a F => ?_
   replace H := Hp.litOwn (kd := kByte) (xs := []) (H) (SayL.nil) (Nat.le_of_ble_eq_true rfl)
   obtain ⟨c23, j_7⟩ := guardO j_7
   obtain ⟨A24, c25, _, hr, H⟩ := Hp.appendRd (kd := kByte) (xs := []) (ys := (a0.R.Kept.getD (x4 : Int).toNat [])) (H) 0 rfl (F.t 17 rfl) (F.t 25 rfl) Try.underlying29 ti5 rfl (by decide) (by decide) c23
   rw [List.nil_append] at hr H
   refine qw F (hr _ _ _ _ _) fun a F => ?_
   replace H := (H).freeze
   refine ls (lbs F H (e := 29) (vs := [(0, .slice A24 ((a0.R.Kept.getD (x4 : Int).toNat [])).length c25)]) (cs := [.slice A24 ((a0.R.Kept.getD (x4 : Int).toNat [])).length c25]) rfl (fun w => by kernel_rfl) fun g26 w a H F => ?_)
   obtain ⟨c27, j_7⟩ := guardO j_7
   obtain ⟨A28, c29, _, hr, H⟩ := Hp.appendCelL (kd := (kSlice kByte)) (xs := x1) (ys := [(a0.R.Kept.getD (x4 : Int).toNat [])]) (H.f1.f1.f2) (F.t 16 rfl) (F.t 27 rfl) Try.underlying30 ti29 rfl (by decide) (by decide) rfl ((SayL.cons (kd := (kSlice kByte)) (c1 := [.slice A24 ((a0.R.Kept.getD (x4 : Int).toNat [])).length c25]) (y := (a0.R.Kept.getD (x4 : Int).toNat [])) (fun Z hp => ⟨A24, c25, rfl, pat hp 0 rfl⟩) SayL.nil)) c27
   refine qw F (hr _ _ _ _ _) fun a F => ?_
   refine as_ F rfl fun a F => ?_
   refine wpList_nil ?_
   replace F := F.only [3, 0, 4] (l' := [(3, _), (0, _), (4, _)]) rfl
   refine wp_region_lit ?_
   refine mv F rfl fun a F => ?_
   refine qw F (r_add (F.t 14 rfl) (F.k (.int .i64 1))) fun a F => ?_
   refine as_ F rfl fun a F => ?_
   refine wpList_nil ?_
   replace H := Hp.closeO_ref18_Store (x := a0) (H.f1) 4 rfl 5 rfl 6 rfl
   try dsimp only at j_7
   obtain rfl := Option.some.inj j_7
   exact ⟨_, rfl, A28, c29, F.only [0, 3, 4] rfl, H.px6.px5.px4.px3.px2.px1.px0.f1⟩
  rw [if_neg c15] at j_7
  rw [decide_eq_false c15] at F
  refine wp_cond_false (F.ev rfl) ?_
  refine wp_exit ?_
  replace H := Hp.closeO_ref18_Store (x := a0) (H) 0 rfl 1 rfl 2 rfl
  try dsimp only at j_7
  obtain rfl := Option.some.inj j_7
  obtain rfl := u_7 _ rfl
  repeat (with_reducible refine exT ?_)
  with_reducible refine exB ?_
  exact ⟨_, rfl, A2, c3, F.only [0, 3] rfl, H.px2.px1.px0.f1⟩
 rintro a w ⟨x5, rfl, A6, c7, F, H⟩
 try dsimp only at h F H
 refine wp_seq ?_
 refine rg ?_
 refine as_ F (v := .int .i64 0) rfl fun a F => ?_
 refine rgend ?_
 obtain ⟨o_36, k_36, h⟩ := Option.bind_eq_some_iff.1 h
 refine cut (fun a w => ∃ (x34 : List (List Int)), x34 = o_36 ∧ ∃ (A35 : Option Addr) (c36 : Nat), Fr 53 [] [(3, .slice A35 x34.length c36)] a ∧ Hp w0 ps (own (kSlice kByte) 29 A35 c36 x34 :: obj_ref18_Store g0_ gx_ a0 :: fs) w) (wp_block ?_) ?_
 ·refine wloop (ref18_Store_Entries_b1 a0) (fun (s : (List (List Int)) × Int) a w => ∃ (A31 : Option Addr) (c32 : Nat), Fr 53 [] [(0, pt g0_), (3, .slice A31 s.1.length c32), (5, .int .i64 s.2)] a ∧ Hp w0 ps (own (kSlice kByte) 29 A31 c32 s.1 :: obj_ref18_Store g0_ gx_ a0 :: fs) w) k_36 ⟨A6, c7, F.only [0, 3, 5] rfl, H⟩ ?_
  rintro ⟨x30, x33⟩ a w q_36 j_36 u_36 ⟨A31, c32, F, H⟩
  unfold ref18_Store_Entries_b1 at j_36
  try dsimp only at j_36 F H
  refine wp_seq ?_
  refine rg ?_
  iterate 2 refine mv F rfl fun a F => ?_
  refine qw F (r_nc (F.t 30 rfl)) fun a F => ?_
  refine qw F (r_fa (off := 1) (F.t 31 rfl) fa101_1) fun a F => ?_
  refine qw F (r_fa (off := 3) (F.t 32 rfl) fa32_3) fun a F => ?_
  obtain ⟨A38, c39, A40, c41, A42, c43, H⟩ := Hp.openO_ref18_Store (H.f1)
  refine qw F (r_ld (F.t 33 rfl) (cel_cell (o := 4) (H.cell 0 rfl) rfl) one30) fun a F => ?_
  refine qw F (r_len (F.t 34 rfl) Try.underlying30) fun a F => ?_
  refine qw F (r_lt (F.t 29 rfl) (F.t 35 rfl)) fun a F => ?_
  refine rgend ?_
  replace F := F.only [36, 0, 3, 5] (l' := [(36, _), (0, _), (3, _), (5, _)]) rfl
  by_cases c44 : x33 < (a0.R.More.length : Int)
  ·rw [if_pos c44] at j_36
   rw [decide_eq_true c44] at F
   refine wp_cond_true (F.ev rfl) ?_
   refine wp_skip ?_
   refine wp_seq ?_
   refine wp_block ?_
   refine wp_region_lit ?_
   refine mv F rfl fun a F => ?_
   refine ls (lbs F H (e := 5) (vs := []) (cs := []) rfl (fun w => by kernel_rfl) fun g45 w a H F => ?_)
   refine mv F rfl fun a F => ?_
   refine qw F (r_nc (F.t 41 rfl)) fun a F => ?_
   refine qw F (r_fa (off := 1) (F.t 42 rfl) fa101_1) fun a F => ?_
   refine qw F (r_fa (off := 3) (F.t 43 rfl) fa32_3) fun a F => ?_
   refine qw F (r_ld (F.t 44 rfl) (cel_cell (o := 4) (H.cell 1 rfl) rfl) one30) fun a F => ?_
   refine mv F rfl fun a F => ?_
   obtain ⟨c46, j_36⟩ := guardO j_36
   obtain ⟨g47, o48, s49, hr, H⟩ := H.ix [] 2 rfl (F.t 45 rfl) (F.t 46 rfl) Try.underlying30 sz29 (by decide) c46.1 c46.2
   obtain ⟨A50, c51, rfl, H⟩ := H.says_slice 1 rfl
   refine qw F (hr _ _ _ _ _ _) fun a F => ?_
   refine qw F (r_ld (F.t 47 rfl) (range_cell (j := 0) (H.range 1 rfl) rfl) one29) fun a F => ?_
   replace H := Hp.litOwn (kd := kByte) (xs := []) (H) (SayL.nil) (Nat.le_of_ble_eq_true rfl)
   obtain ⟨c52, j_36⟩ := guardO j_36
   obtain ⟨A53, c54, _, hr, H⟩ := Hp.appendRd (kd := kByte) (xs := []) (ys := (a0.R.More.getD (x33 : Int).toNat [])) (H) 0 rfl (F.t 40 rfl) (F.t 48 rfl) Try.underlying29 ti5 rfl (by decide) (by decide) c52
   rw [List.nil_append] at hr H
   refine qw F (hr _ _ _ _ _) fun a F => ?_
   replace H := (H).freeze
   refine ls (lbs F H (e := 29) (vs := [(0, .slice A53 ((a0.R.More.getD (x33 : Int).toNat [])).length c54)]) (cs := [.slice A53 ((a0.R.More.getD (x33 : Int).toNat [])).length c54]) rfl (fun w => by kernel_rfl) fun g55 w a H F => ?_)
   obtain ⟨c56, j_36⟩ := guardO j_36
   obtain ⟨A57, c58, _, hr, H⟩ := Hp.appendCelL (kd := (kSlice kByte)) (xs := x30) (ys := [(a0.R.More.getD (x33 : Int).toNat [])]) (H.f1.f1.f2) (F.t 39 rfl) (F.t 50 rfl) Try.underlying30 ti29 rfl (by decide) (by decide) rfl ((SayL.cons (kd := (kSlice kByte)) (c1 := [.slice A53 ((a0.R.More.getD (x33 : Int).toNat [])).length c54]) (y := (a0.R.More.getD (x33 : Int).toNat [])) (fun Z hp => ⟨A53, c54, rfl, pat hp 0 rfl⟩) SayL.nil)) c56
   refine qw F (hr _ _ _ _ _) fun a F => ?_
   refine as_ F rfl fun a F => ?_
   refine wpList_nil ?_
   replace F := F.only [3, 0, 5] (l' := [(3, _), (0, _), (5, _)]) rfl
   refine wp_region_lit ?_
   refine mv F rfl fun a F => ?_
   refine qw F (r_add (F.t 37 rfl) (F.k (.int .i64 1))) fun a F => ?_
   refine as_ F rfl fun a F => ?_
   refine wpList_nil ?_
   replace H := Hp.closeO_ref18_Store (x := a0) (H.f1) 4 rfl 5 rfl 6 rfl
   try dsimp only at j_36
   obtain rfl := Option.some.inj j_36
   exact ⟨_, rfl, A57, c58, F.only [0, 3, 5] rfl, H.px6.px5.px4.px3.px2.px1.px0.f1⟩
  rw [if_neg c44] at j_36
  rw [decide_eq_false c44] at F
  refine wp_cond_false (F.ev rfl) ?_
  refine wp_exit ?_
  replace H := Hp.closeO_ref18_Store (x := a0) (H) 0 rfl 1 rfl 2 rfl
  try dsimp only at j_36
  obtain rfl := Option.some.inj j_36
  obtain rfl := u_36 _ rfl
  repeat (with_reducible refine exT ?_)
  with_reducible refine exB ?_
  exact ⟨_, rfl, A31, c32, F.only [3] rfl, H.px2.px1.px0.f1⟩
 rintro a w ⟨x34, rfl, A35, c36, F, H⟩
 try dsimp only at h F H
 refine rg ?_
 refine mv F rfl fun a F => ?_
 refine as_ F rfl fun a F => ?_
 refine rgend ?_
 refine wp_ret ?_
 try dsimp only at h
 obtain rfl := Option.some.inj h
 exact RET _ _ (ret1 F rfl rfl ⟨_, rfl, A35, c36, rfl, H⟩)
def ref18_right_b0 (a1 : List (List Int)) : Int → Option (Int ⊕ (Unit ⊕ Bool))
 | x1 => (if x1 < (a1.length : Int) then (if 0 ≤ x1 ∧ x1 < (a1.length : Int) then ((ref17_Entry_f ((a1.getD (x1 : Int).toNat []))).bind fun x10 => (if x10 = true then some (.inl (IntKind.i64.wrap (x1 + 1))) else some (.inr (.inr false)))) else none) else some (.inr (.inl ())))
def ref18_right_f (a0 : List Int) (a1 : List (List Int)) : Option (Bool) :=
 ((lp (ref18_right_b0 a1) 0).bind fun q => match q with | .inl _ => ((((ref17_State_f a0).bind fun x15 => (if x15 = true then some ((decide ((a1.length : Int) ≤ 1000))) else some false)) : Option (Bool)).bind fun x13 => some x13) | .inr r => some r)
theorem ref18_right_ok {w0 w : World} {ps : List PF} {fs : List SF} {a0 : List Int} {A0_ : Option Addr} {c0_ : Nat} {a1 : List (List Int)} {A1_ : Option Addr} {c1_ : Nat} {r0 : Bool} (H : Hp w0 (rd kByte A0_ c0_ a0 :: rd (kSlice kByte) A1_ c1_ a1 :: ps) fs w) (h : ref18_right_f a0 a1 = some r0) :
  Calls Try.prog 89 [.slice A0_ a0.length c0_, .slice A1_ a1.length c1_].toArray w fun e w' => ∃ v, e = .returned v ∧ v = .bool r0 ∧ Hp w0 ps fs w' := by
 refine enter [.slice A0_ a0.length c0_, .slice A1_ a1.length c1_] 25 Try.func89 fun Q a NP RET NRM F => ?_
 replace NP := np NP
 unfold ref18_right_f at h
 refine rg ?_
 refine as_ F (v := .bool false) rfl fun a F => ?_
 refine rgend ?_
 refine wp_seq ?_
 refine rg ?_
 refine as_ F (v := .int .i64 0) rfl fun a F => ?_
 refine rgend ?_
 obtain ⟨o_1, k_1, h⟩ := Option.bind_eq_some_iff.1 h
 refine cut (fun a w => Sum.inl () = o_1 ∧ Fr 25 [] [(0, .slice A0_ a0.length c0_), (1, .slice A1_ a1.length c1_)] a ∧ Hp w0 (rd kByte A0_ c0_ a0 :: rd (kSlice kByte) A1_ c1_ a1 :: ps) fs w) (wp_block ?_) ?_
 ·refine wloop (ref18_right_b0 a1) (fun (s : Int) a w => Fr 25 [] [(0, .slice A0_ a0.length c0_), (1, .slice A1_ a1.length c1_), (5, .int .i64 s)] a ∧ Hp w0 (rd kByte A0_ c0_ a0 :: rd (kSlice kByte) A1_ c1_ a1 :: ps) fs w) k_1 ⟨F.only [0, 1, 5] rfl, H⟩ ?_
  rintro x1 a w q_1 j_1 u_1 ⟨F, H⟩
  unfold ref18_right_b0 at j_1
  try dsimp only at j_1 F H
  refine wp_seq ?_
  refine rg ?_
  iterate 2 refine mv F rfl fun a F => ?_
  refine qw F (r_len (F.t 7 rfl) Try.underlying30) fun a F => ?_
  refine qw F (r_lt (F.t 6 rfl) (F.t 8 rfl)) fun a F => ?_
  refine rgend ?_
  by_cases c3 : x1 < (a1.length : Int)
  ·rw [if_pos c3] at j_1
   rw [decide_eq_true c3] at F
   refine wp_cond_true (F.ev rfl) ?_
   refine wp_skip ?_
   refine wp_seq ?_
   refine wp_block ?_
   refine rg ?_
   iterate 2 refine mv F rfl fun a F => ?_
   obtain ⟨c4, j_1⟩ := guardO j_1
   obtain ⟨g5, o6, s7, hr, H⟩ := H.ix [] 1 rfl (F.t 12 rfl) (F.t 13 rfl) Try.underlying30 sz29 (by decide) c4.1 c4.2
   obtain ⟨A8, c9, rfl, H⟩ := H.says_slice 1 rfl
   refine qw F (hr _ _ _ _ _ _) fun a F => ?_
   refine qw F (r_ld (F.t 14 rfl) (range_cell (j := 0) (H.range 1 rfl) rfl) one29) fun a F => ?_
   obtain ⟨x10, e11, j_1⟩ := Option.bind_eq_some_iff.1 j_1
   try dsimp only at j_1
   refine ls (call F Try.func97 (ref17_Entry_ok (H.p0) e11) rfl rfl fun v w hR a F => ?_)
   obtain ⟨rfl, H⟩ := hR
   refine qw F (r_not (F.t 16 rfl)) fun a F => ?_
   refine rgend ?_
   replace F := F.only [17, 0, 1, 5] (l' := [(17, _), (0, _), (1, _), (5, _)]) rfl
   by_cases c12 : x10 = true
   ·rw [if_pos c12] at j_1
    rw [c12] at F
    refine wp_cond_false (F.ev rfl) ?_
    refine wp_skip ?_
    refine wp_region_lit ?_
    refine mv F rfl fun a F => ?_
    refine qw F (r_add (F.t 10 rfl) (F.k (.int .i64 1))) fun a F => ?_
    refine as_ F rfl fun a F => ?_
    refine wpList_nil ?_
    replace F := F.only [5, 0, 1] (l' := [(5, _), (0, _), (1, _)]) rfl
    try dsimp only at j_1
    obtain rfl := Option.some.inj j_1
    exact ⟨_, rfl, F.only [0, 1, 5] rfl, H.px2.px1.px0⟩
   rw [if_neg c12] at j_1
   rw [Bool.eq_false_iff.2 c12] at F
   refine wp_cond_true (F.ev rfl) ?_
   refine rg ?_
   refine as_ F (v := .bool false) rfl fun a F => ?_
   refine rgend ?_
   replace F := F.only [4] (l' := [(4, _)]) rfl
   refine wp_ret ?_
   try dsimp only at j_1
   obtain rfl := Option.some.inj j_1
   obtain rfl := u_1 _ rfl
   try dsimp only at h
   obtain rfl := Option.some.inj h
   exact RET _ _ (ret1 F rfl rfl ⟨_, rfl, rfl, H.px4.px3.px2.px1.px0⟩)
  rw [if_neg c3] at j_1
  rw [decide_eq_false c3] at F
  refine wp_cond_false (F.ev rfl) ?_
  refine wp_exit ?_
  try dsimp only at j_1
  obtain rfl := Option.some.inj j_1
  obtain rfl := u_1 _ rfl
  repeat (with_reducible refine exT ?_)
  with_reducible refine exB ?_
  exact ⟨rfl, F.only [0, 1] rfl, H⟩
 rintro a w ⟨rfl, F, H⟩
 try dsimp only at h F H
 refine wp_seq ?_
 obtain ⟨o_13, k_13, h⟩ := Option.bind_eq_some_iff.1 h
 refine cut (fun a w => ∃ (x13 : Bool), x13 = o_13 ∧ Fr 25 [] [(4, .bool x13)] a ∧ Hp w0 ps fs w) ?_ ?_
 ·skip
  refine wp_region_lit ?_
  refine mv F rfl fun a F => ?_
  obtain ⟨x15, e16, k_13⟩ := Option.bind_eq_some_iff.1 k_13
  try dsimp only at k_13
  refine ls (call F Try.func98 (ref17_State_ok (H.p0) e16) rfl rfl fun v w hR a F => ?_)
  obtain ⟨rfl, H⟩ := hR
  refine mv F rfl fun a F => ?_
  by_cases c17 : x15 = true
  ·rw [if_pos c17] at k_13
   rw [c17] at F
   refine mv F rfl fun a F => ?_
   refine qw F (r_len (F.t 21 rfl) Try.underlying30) fun a F => ?_
   refine qw F (r_le (F.t 22 rfl) (F.k (.int .i64 1000))) fun a F => ?_
   refine qw F (r_pickT (F.t 20 rfl) (F.t 23 rfl)) fun a F => ?_
   refine as_ F rfl fun a F => ?_
   refine wpList_nil ?_
   replace F := F.only [4] (l' := [(4, _)]) rfl
   try dsimp only at k_13
   obtain rfl := Option.some.inj k_13
   exact ⟨_, rfl, F.only [4] rfl, H.px1.px0⟩
  rw [if_neg c17] at k_13
  rw [Bool.eq_false_iff.2 c17] at F
  iterate 3 refine of_ F fun a F => ?_
  refine qw F (r_pickF (F.t 20 rfl) (F.k (.bool false))) fun a F => ?_
  refine as_ F rfl fun a F => ?_
  refine wpList_nil ?_
  replace F := F.only [4] (l' := [(4, _)]) rfl
  try dsimp only at k_13
  obtain rfl := Option.some.inj k_13
  exact ⟨_, rfl, F.only [4] rfl, H.px1.px0⟩
 rintro a w ⟨x13, rfl, F, H⟩
 try dsimp only at h F H
 refine wp_ret ?_
 try dsimp only at h
 obtain rfl := Option.some.inj h
 exact RET _ _ (ret1 F rfl rfl ⟨_, rfl, rfl, H⟩)
def ref18_own_b0 (a0 : List (List Int)) : ((List (List Int)) × Int) → Option ((List (List Int)) × Int ⊕ List (List Int))
 | (x1, x4) => (if x4 < (a0.length : Int) then (if 0 ≤ x4 ∧ x4 < (a0.length : Int) then (if (0 + ((a0.getD (x4 : Int).toNat [])).length) * 1 ≤ 140737488355328 then (if (x1.length + 1) * 24 ≤ 140737488355328 then some (.inl ((x1 ++ ([(a0.getD (x4 : Int).toNat [])])), IntKind.i64.wrap (x4 + 1))) else none) else none) else none) else some (.inr x1))
def ref18_own_f (a0 : List (List Int)) : Option (List (List Int)) :=
 ((lp (ref18_own_b0 a0) ([], 0)).bind fun x5 => some x5)
theorem ref18_own_ok {w0 w : World} {ps : List PF} {fs : List SF} {a0 : List (List Int)} {A0_ : Option Addr} {c0_ : Nat} {r0 : List (List Int)} (H : Hp w0 (rd (kSlice kByte) A0_ c0_ a0 :: ps) fs w) (h : ref18_own_f a0 = some r0) :
  Calls Try.prog 88 [.slice A0_ a0.length c0_].toArray w fun e w' => ∃ v, e = .returned v ∧ ∃ (A0 : Option Addr) (c0 : Nat), v = .slice A0 r0.length c0 ∧ Hp w0 ps (own (kSlice kByte) 29 A0 c0 r0 :: fs) w' := by
 refine enter [.slice A0_ a0.length c0_] 21 Try.func88 fun Q a NP RET NRM F => ?_
 replace NP := np NP
 unfold ref18_own_f at h
 refine rg ?_
 refine as_ F (v := .slice none 0 0) rfl fun a F => ?_
 refine rgend ?_
 refine rg ?_
 refine as_ F (v := .slice none 0 0) rfl fun a F => ?_
 refine rgend ?_
 refine wp_seq ?_
 refine rg ?_
 refine as_ F (v := .int .i64 0) rfl fun a F => ?_
 refine rgend ?_
 replace H := H.nilOwn (kSlice kByte) 29
 obtain ⟨o_7, k_7, h⟩ := Option.bind_eq_some_iff.1 h
 refine cut (fun a w => ∃ (x5 : List (List Int)), x5 = o_7 ∧ ∃ (A6 : Option Addr) (c7 : Nat), Fr 21 [] [(3, .slice A6 x5.length c7)] a ∧ Hp w0 ps (own (kSlice kByte) 29 A6 c7 x5 :: fs) w) (wp_block ?_) ?_
 ·refine wloop (ref18_own_b0 a0) (fun (s : (List (List Int)) × Int) a w => ∃ (A2 : Option Addr) (c3 : Nat), Fr 21 [] [(0, .slice A0_ a0.length c0_), (3, .slice A2 s.1.length c3), (4, .int .i64 s.2)] a ∧ Hp w0 (rd (kSlice kByte) A0_ c0_ a0 :: ps) (own (kSlice kByte) 29 A2 c3 s.1 :: fs) w) k_7 ⟨none, 0, F.only [0, 3, 4] rfl, H⟩ ?_
  rintro ⟨x1, x4⟩ a w q_7 j_7 u_7 ⟨A2, c3, F, H⟩
  unfold ref18_own_b0 at j_7
  try dsimp only at j_7 F H
  refine wp_seq ?_
  refine rg ?_
  iterate 2 refine mv F rfl fun a F => ?_
  refine qw F (r_len (F.t 6 rfl) Try.underlying30) fun a F => ?_
  refine qw F (r_lt (F.t 5 rfl) (F.t 7 rfl)) fun a F => ?_
  refine rgend ?_
  by_cases c9 : x4 < (a0.length : Int)
  ·rw [if_pos c9] at j_7
   rw [decide_eq_true c9] at F
   refine wp_cond_true (F.ev rfl) ?_
   refine wp_skip ?_
   refine wp_seq ?_
   refine wp_block ?_
   refine wp_region_lit ?_
   refine mv F rfl fun a F => ?_
   refine ls (lbs F H (e := 5) (vs := []) (cs := []) rfl (fun w => by kernel_rfl) fun g10 w a H F => ?_)
   iterate 2 refine mv F rfl fun a F => ?_
   obtain ⟨c11, j_7⟩ := guardO j_7
   obtain ⟨g12, o13, s14, hr, H⟩ := H.ix [] 0 rfl (F.t 13 rfl) (F.t 14 rfl) Try.underlying30 sz29 (by decide) c11.1 c11.2
   obtain ⟨A15, c16, rfl, H⟩ := H.says_slice 1 rfl
   refine qw F (hr _ _ _ _ _ _) fun a F => ?_
   refine qw F (r_ld (F.t 15 rfl) (range_cell (j := 0) (H.range 1 rfl) rfl) one29) fun a F => ?_
   replace H := Hp.litOwn (kd := kByte) (xs := []) (H) (SayL.nil) (Nat.le_of_ble_eq_true rfl)
   obtain ⟨c17, j_7⟩ := guardO j_7
   obtain ⟨A18, c19, _, hr, H⟩ := Hp.appendRd (kd := kByte) (xs := []) (ys := (a0.getD (x4 : Int).toNat [])) (H) 0 rfl (F.t 12 rfl) (F.t 16 rfl) Try.underlying29 ti5 rfl (by decide) (by decide) c17
   rw [List.nil_append] at hr H
   refine qw F (hr _ _ _ _ _) fun a F => ?_
   replace H := (H).freeze
   refine ls (lbs F H (e := 29) (vs := [(0, .slice A18 ((a0.getD (x4 : Int).toNat [])).length c19)]) (cs := [.slice A18 ((a0.getD (x4 : Int).toNat [])).length c19]) rfl (fun w => by kernel_rfl) fun g20 w a H F => ?_)
   obtain ⟨c21, j_7⟩ := guardO j_7
   obtain ⟨A22, c23, _, hr, H⟩ := Hp.appendCelL (kd := (kSlice kByte)) (xs := x1) (ys := [(a0.getD (x4 : Int).toNat [])]) (H.f1) (F.t 11 rfl) (F.t 18 rfl) Try.underlying30 ti29 rfl (by decide) (by decide) rfl ((SayL.cons (kd := (kSlice kByte)) (c1 := [.slice A18 ((a0.getD (x4 : Int).toNat [])).length c19]) (y := (a0.getD (x4 : Int).toNat [])) (fun Z hp => ⟨A18, c19, rfl, pat hp 0 rfl⟩) SayL.nil)) c21
   refine qw F (hr _ _ _ _ _) fun a F => ?_
   refine as_ F rfl fun a F => ?_
   refine wpList_nil ?_
   replace F := F.only [3, 0, 4] (l' := [(3, _), (0, _), (4, _)]) rfl
   refine wp_region_lit ?_
   refine mv F rfl fun a F => ?_
   refine qw F (r_add (F.t 9 rfl) (F.k (.int .i64 1))) fun a F => ?_
   refine as_ F rfl fun a F => ?_
   refine wpList_nil ?_
   try dsimp only at j_7
   obtain rfl := Option.some.inj j_7
   exact ⟨_, rfl, A22, c23, F.only [0, 3, 4] rfl, H.px3.px2.px1.px0⟩
  rw [if_neg c9] at j_7
  rw [decide_eq_false c9] at F
  refine wp_cond_false (F.ev rfl) ?_
  refine wp_exit ?_
  try dsimp only at j_7
  obtain rfl := Option.some.inj j_7
  obtain rfl := u_7 _ rfl
  repeat (with_reducible refine exT ?_)
  with_reducible refine exB ?_
  exact ⟨_, rfl, A2, c3, F.only [3] rfl, H.px0⟩
 rintro a w ⟨x5, rfl, A6, c7, F, H⟩
 try dsimp only at h F H
 refine rg ?_
 refine mv F rfl fun a F => ?_
 refine as_ F rfl fun a F => ?_
 refine rgend ?_
 refine wp_ret ?_
 try dsimp only at h
 obtain rfl := Option.some.inj h
 exact RET _ _ (ret1 F rfl rfl ⟨_, rfl, A6, c7, rfl, H⟩)
def ref18_Store_Begin_f (a0 : ref18_Store) (a1 : List Int) (a2 : List (List Int)) (a3 : ref15_Disk) : Option (Int × ref18_Store × ref15_Disk) :=
 (if a0.Broken = true then some (43, a0, a3) else ((ref18_right_f a1 a2).bind fun x8 => (if x8 = true then ((ref18_half_f a3).bind fun x11 => ((ref17_Greatest_f a3 0 x11).bind fun x13 => ((ref17_Greatest_f a3 x11 x11).bind fun x15 => (if (max x13 x15) ≥ 281474976710656 then some ((5, (⟨a0.R, a0.Is, a0.Half, a0.Begun, true⟩ : ref18_Store), a3)) else (((if a0.Is = true then some ((IntKind.i64.wrap (1 - a0.Half))) else some 0) : Option (Int)).bind fun x18 => ((ref17_Lay_f a3 (IntKind.i64.wrap (x18 * x11)) x11 (IntKind.i64.wrap ((max x13 x15) + 1)) a1 a2).bind fun (x27, x28) => (((if x27 = 0 then ((ref15_Disk_Sync_f x28).bind fun (x34, x35) => some (x34, x35)) else some (x27, x28)) : Option (Int × ref15_Disk)).bind fun (x30, x31) => (if x30 ≠ 0 then some ((x30, (⟨a0.R, a0.Is, a0.Half, a0.Begun, true⟩ : ref18_Store), x31)) else (if (0 + a1.length) * 1 ≤ 140737488355328 then ((ref18_own_f a2).bind fun x48 => some ((0, (⟨⟨IntKind.i64.wrap ((max x13 x15) + 1), a1, x48, []⟩, true, x18, true, a0.Broken⟩ : ref18_Store), x31))) else none))))))))) else some (1, a0, a3))))
theorem ref18_Store_Begin_ok {w0 w : World} {ps : List PF} {fs : List SF} {a0 : ref18_Store} {g0_ : Nat} {a1 : List Int} {A1_ : Option Addr} {c1_ : Nat} {a2 : List (List Int)} {A2_ : Option Addr} {c2_ : Nat} {a3 : ref15_Disk} {g3_ : Nat} {r0 : Int} {s0 : ref18_Store} {s3 : ref15_Disk} (H : Hp w0 (rd kByte A1_ c1_ a1 :: rd (kSlice kByte) A2_ c2_ a2 :: ps) (obj_ref18_Store g0_ g3_ a0 :: obj_ref15_Disk g3_ a3 :: fs) w) (h : ref18_Store_Begin_f a0 a1 a2 a3 = some (r0, s0, s3)) :
  Calls Try.prog 75 [pt g0_, .slice A1_ a1.length c1_, .slice A2_ a2.length c2_].toArray w fun e w' => ∃ v, e = .returned v ∧ v = .int .i64 r0 ∧ Hp w0 ps (obj_ref18_Store g0_ g3_ s0 :: obj_ref15_Disk g3_ s3 :: fs) w' := by
 refine enter [pt g0_, .slice A1_ a1.length c1_, .slice A2_ a2.length c2_] 99 Try.func75 fun Q a NP RET NRM F => ?_
 replace NP := np NP
 unfold ref18_Store_Begin_f at h
 refine rg ?_
 refine as_ F (v := .int .i64 0) rfl fun a F => ?_
 refine rgend ?_
 refine wp_seq ?_
 refine rg ?_
 refine mv F rfl fun a F => ?_
 refine qw F (r_nc (F.t 11 rfl)) fun a F => ?_
 refine qw F (r_fa (off := 8) (F.t 12 rfl) fa101_5) fun a F => ?_
 obtain ⟨A1, c2, A3, c4, A5, c6, H⟩ := Hp.openO_ref18_Store (H)
 refine qw F (r_ld (F.t 13 rfl) (cel_cell (o := 8) (H.cell 0 rfl) rfl) one4) fun a F => ?_
 refine rgend ?_
 replace F := F.only [14, 0, 1, 2] (l' := [(14, _), (0, _), (1, _), (2, _)]) rfl
 by_cases c7 : a0.Broken = true
 ·rw [if_pos c7] at h
  rw [c7] at F
  refine wp_cond_true (F.ev rfl) ?_
  refine rg ?_
  refine as_ F (v := .int .i64 43) rfl fun a F => ?_
  refine rgend ?_
  replace F := F.only [6] (l' := [(6, _)]) rfl
  refine wp_ret ?_
  replace H := Hp.closeO_ref18_Store (x := a0) (H) 0 rfl 1 rfl 2 rfl
  try dsimp only at h
  obtain ⟨rfl, hx_0⟩ := Prod.mk.inj (Option.some.inj h)
  obtain ⟨rfl, rfl⟩ := Prod.mk.inj hx_0
  exact RET _ _ (ret1 F rfl rfl ⟨_, rfl, rfl, H.px4.px3.px2.px1.px0⟩)
 rw [if_neg c7] at h
 rw [Bool.eq_false_iff.2 c7] at F
 refine wp_cond_false (F.ev rfl) ?_
 refine wp_skip ?_
 refine wp_seq ?_
 refine rg ?_
 iterate 2 refine mv F rfl fun a F => ?_
 obtain ⟨x8, e9, h⟩ := Option.bind_eq_some_iff.1 h
 try dsimp only at h
 refine ls (call F Try.func89 (ref18_right_ok (H.p4.p4) e9) rfl rfl fun v w hR a F => ?_)
 obtain ⟨rfl, H⟩ := hR
 refine qw F (r_not (F.t 17 rfl)) fun a F => ?_
 refine rgend ?_
 replace F := F.only [18, 0, 1, 2] (l' := [(18, _), (0, _), (1, _), (2, _)]) rfl
 by_cases c10 : x8 = true
 ·rw [if_pos c10] at h
  rw [c10] at F
  refine wp_cond_false (F.ev rfl) ?_
  refine wp_skip ?_
  refine rg ?_
  refine mv F rfl fun a F => ?_
  refine qw F (r_nc (F.t 19 rfl)) fun a F => ?_
  refine qw F (r_fa (off := 0) (F.t 20 rfl) fa101_0) fun a F => ?_
  refine qw F (r_ld (F.t 21 rfl) (cel_cell (o := 0) (H.cell 0 rfl) rfl) one54) fun a F => ?_
  obtain ⟨x11, e12, h⟩ := Option.bind_eq_some_iff.1 h
  try dsimp only at h
  refine ls (call F Try.func62 (ref18_half_ok (H.f1) e12) rfl rfl fun v w hR a F => ?_)
  obtain ⟨rfl, H⟩ := hR
  refine as_ F rfl fun a F => ?_
  refine rgend ?_
  replace F := F.only [7, 0, 1, 2] (l' := [(7, _), (0, _), (1, _), (2, _)]) rfl
  refine wp_seq ?_
  replace H := H.drew
  have HS := H.fx0
  refine dr (fun w => Hp w0 (rd kByte A1 c2 a0.R.State :: rd (kSlice kByte) A3 c4 a0.R.Kept :: rd (kSlice kByte) A5 c6 a0.R.More :: rd kByte A1_ c1_ a1 :: rd (kSlice kByte) A2_ c2_ a2 :: ps) (cel g0_ [pt g3_, .int .i64 a0.R.Gen, .slice A1 a0.R.State.length c2, .slice A3 a0.R.Kept.length c4, .slice A5 a0.R.More.length c6, .bool a0.Is, .int .i64 a0.Half, .bool a0.Begun, .bool a0.Broken] 101 :: fs) w) _ (by kernel_rfl) ?_ (n := 15)
  refine dk 0 F rfl NP HS (fun w S => (r_mv (F.t 0 rfl))) fun a F => ?_
  refine dk 1 F rfl NP HS (fun w S => (r_nc (F.t 24 rfl))) fun a F => ?_
  refine dk 2 F rfl NP HS (fun w S => (r_fa (off := 0) (F.t 25 rfl) fa101_0)) fun a F => ?_
  refine dk 3 F rfl NP HS (fun w S => (r_ld (F.t 26 rfl) (cel_cell (o := 0) (S.cell 0 rfl) rfl) one54)) fun a F => ?_
  refine dk 4 F rfl NP HS (fun w S => (r_mv (F.t 7 rfl))) fun a F => ?_
  refine dk 6 F rfl NP HS (fun w S => (r_mv (F.t 0 rfl))) fun a F => ?_
  refine dk 7 F rfl NP HS (fun w S => (r_nc (F.t 30 rfl))) fun a F => ?_
  refine dk 8 F rfl NP HS (fun w S => (r_fa (off := 0) (F.t 31 rfl) fa101_0)) fun a F => ?_
  refine dk 9 F rfl NP HS (fun w S => (r_ld (F.t 32 rfl) (cel_cell (o := 0) (S.cell 0 rfl) rfl) one54)) fun a F => ?_
  refine dk 10 F rfl NP HS (fun w S => (r_mv (F.t 7 rfl))) fun a F => ?_
  refine dk 11 F rfl NP HS (fun w S => (r_mv (F.t 7 rfl))) fun a F => ?_
  obtain ⟨x13, e14, h⟩ := Option.bind_eq_some_iff.1 h
  try dsimp only at h
  refine d1 5 rfl (by kernel_rfl) (call F Try.func90 (ref17_Greatest_ok (H) e14) rfl rfl fun v w hR a F => ?_)
  obtain ⟨rfl, H⟩ := hR
  have HS := H.fx0
  refine kg _ HS (fun w S => S) ?_
  obtain ⟨x15, e16, h⟩ := Option.bind_eq_some_iff.1 h
  try dsimp only at h
  refine d1 12 rfl (by kernel_rfl) (call F Try.func90 (ref17_Greatest_ok (H) e16) rfl rfl fun v w hR a F => ?_)
  obtain ⟨rfl, H⟩ := hR
  have HS := H.fx0
  refine kg _ HS (fun w S => S) ?_
  refine dk 13 F rfl NP HS (fun w S => (r_max (F.t 29 rfl) (F.t 36 rfl))) fun a F => ?_
  refine dk 14 F rfl NP HS (fun w S => (r_as (F.t 37 rfl))) fun a F => ?_
  refine ddone (by kernel_rfl) ?_
  replace F := F.only [8, 7, 0, 1, 2] (l' := [(8, _), (7, _), (0, _), (1, _), (2, _)]) rfl
  refine wp_seq ?_
  refine rg ?_
  refine mv F rfl fun a F => ?_
  refine qw F (r_ge (F.t 38 rfl) (F.k (.int .i64 281474976710656))) fun a F => ?_
  refine rgend ?_
  by_cases c17 : (max x13 x15) ≥ 281474976710656
  ·rw [if_pos c17] at h
   rw [decide_eq_true c17] at F
   refine wp_cond_true (F.ev rfl) ?_
   refine rg ?_
   refine mv F rfl fun a F => ?_
   refine qw F (r_nc (F.t 40 rfl)) fun a F => ?_
   refine qw F (r_fa (off := 8) (F.t 41 rfl) fa101_5) fun a F => ?_
   refine sto F [.bool true] [.pointer (some ⟨g3_, 0, none⟩), .int .i64 a0.R.Gen, .slice A1 a0.R.State.length c2, .slice A3 a0.R.Kept.length c4, .slice A5 a0.R.More.length c6, .bool a0.Is, .int .i64 a0.Half, .bool a0.Begun, .bool true] H.f1 rfl rfl sz4 fun w a H F => ?_
   refine rgend ?_
   replace F := F.only [] (l' := []) rfl
   refine rg ?_
   refine as_ F (v := .int .i64 5) rfl fun a F => ?_
   refine rgend ?_
   refine wp_ret ?_
   replace H := Hp.closeO_ref18_Store (x := (⟨a0.R, a0.Is, a0.Half, a0.Begun, true⟩ : ref18_Store)) (H) 0 rfl 1 rfl 2 rfl
   try dsimp only at h
   obtain ⟨rfl, hx_0⟩ := Prod.mk.inj (Option.some.inj h)
   obtain ⟨rfl, rfl⟩ := Prod.mk.inj hx_0
   exact RET _ _ (ret1 F rfl rfl ⟨_, rfl, rfl, H.px4.px3.px2.px1.px0⟩)
  rw [if_neg c17] at h
  rw [decide_eq_false c17] at F
  refine wp_cond_false (F.ev rfl) ?_
  refine wp_skip ?_
  refine rg ?_
  refine as_ F (v := .int .i64 0) rfl fun a F => ?_
  refine rgend ?_
  refine wp_seq ?_
  refine rg ?_
  refine mv F rfl fun a F => ?_
  refine qw F (r_nc (F.t 43 rfl)) fun a F => ?_
  refine qw F (r_fa (off := 5) (F.t 44 rfl) fa101_2) fun a F => ?_
  refine qw F (r_ld (F.t 45 rfl) (cel_cell (o := 5) (H.cell 1 rfl) rfl) one4) fun a F => ?_
  refine rgend ?_
  replace F := F.only [46, 9, 8, 7, 0, 1, 2] (l' := [(46, _), (9, _), (8, _), (7, _), (0, _), (1, _), (2, _)]) rfl
  obtain ⟨o_18, k_18, h⟩ := Option.bind_eq_some_iff.1 h
  refine cut (fun a w => ∃ (x18 : Int), x18 = o_18 ∧ Fr 99 [] [(0, pt g0_), (1, .slice A1_ a1.length c1_), (2, .slice A2_ a2.length c2_), (7, .int .i64 x11), (8, .int .i64 (max x13 x15)), (9, .int .i64 x18)] a ∧ Hp w0 (rd kByte A1_ c1_ a1 :: rd (kSlice kByte) A2_ c2_ a2 :: ps) (obj_ref18_Store g0_ g3_ a0 :: obj_ref15_Disk g3_ a3 :: fs) w) ?_ ?_
  ·skip
   by_cases c20 : a0.Is = true
   ·rw [if_pos c20] at k_18
    rw [c20] at F
    refine wp_cond_true (F.ev rfl) ?_
    refine wp_region_lit ?_
    refine mv F rfl fun a F => ?_
    refine qw F (r_nc (F.t 47 rfl)) fun a F => ?_
    refine qw F (r_fa (off := 6) (F.t 48 rfl) fa101_3) fun a F => ?_
    refine qw F (r_ld (F.t 49 rfl) (cel_cell (o := 6) (H.cell 1 rfl) rfl) one3) fun a F => ?_
    refine qw F (r_sub (F.k (.int .i64 1)) (F.t 50 rfl)) fun a F => ?_
    refine as_ F rfl fun a F => ?_
    refine wpList_nil ?_
    replace F := F.only [9, 8, 7, 0, 1, 2] (l' := [(9, _), (8, _), (7, _), (0, _), (1, _), (2, _)]) rfl
    replace H := Hp.closeO_ref18_Store (x := a0) (H.f1) 0 rfl 1 rfl 2 rfl
    try dsimp only at k_18
    obtain rfl := Option.some.inj k_18
    exact ⟨_, rfl, F.only [0, 1, 2, 7, 8, 9] rfl, H.px2.px1.px0⟩
   rw [if_neg c20] at k_18
   rw [Bool.eq_false_iff.2 c20] at F
   refine wp_cond_false (F.ev rfl) ?_
   refine wp_skip ?_
   replace H := Hp.closeO_ref18_Store (x := a0) (H.f1) 0 rfl 1 rfl 2 rfl
   try dsimp only at k_18
   obtain rfl := Option.some.inj k_18
   exact ⟨_, rfl, F.only [0, 1, 2, 7, 8, 9] rfl, H.px2.px1.px0⟩
  rintro a w ⟨x18, rfl, F, H⟩
  try dsimp only at h F H
  refine rg ?_
  refine mv F rfl fun a F => ?_
  refine qw F (r_nc (F.t 52 rfl)) fun a F => ?_
  refine qw F (r_fa (off := 0) (F.t 53 rfl) fa101_0) fun a F => ?_
  obtain ⟨A21, c22, A23, c24, A25, c26, H⟩ := Hp.openO_ref18_Store (H)
  refine qw F (r_ld (F.t 54 rfl) (cel_cell (o := 0) (H.cell 0 rfl) rfl) one54) fun a F => ?_
  iterate 2 refine mv F rfl fun a F => ?_
  refine qw F (r_mul (F.t 56 rfl) (F.t 57 rfl)) fun a F => ?_
  iterate 2 refine mv F rfl fun a F => ?_
  refine qw F (r_add (F.t 60 rfl) (F.k (.int .i64 1))) fun a F => ?_
  iterate 2 refine mv F rfl fun a F => ?_
  obtain ⟨⟨x27, x28⟩, e29, h⟩ := Option.bind_eq_some_iff.1 h
  try dsimp only at h
  refine ls (call F Try.func91 (ref17_Lay_ok (H.p4.p4.f1) e29) rfl rfl fun v w hR a F => ?_)
  obtain ⟨rfl, H⟩ := hR
  refine as_ F rfl fun a F => ?_
  refine rgend ?_
  replace F := F.only [10, 0, 1, 2, 8, 9] (l' := [(10, _), (0, _), (1, _), (2, _), (8, _), (9, _)]) rfl
  refine wp_seq ?_
  refine rg ?_
  refine mv F rfl fun a F => ?_
  refine qw F (r_eq (F.t 65 rfl) (F.k (.int .i64 0))) fun a F => ?_
  refine rgend ?_
  obtain ⟨o_31, k_31, h⟩ := Option.bind_eq_some_iff.1 h
  refine cut (fun a w => ∃ (x30 : Int) (x31 : ref15_Disk), (x30, x31) = o_31 ∧ Fr 99 [] [(0, pt g0_), (1, .slice A1_ a1.length c1_), (2, .slice A2_ a2.length c2_), (8, .int .i64 (max x13 x15)), (9, .int .i64 x18), (10, .int .i64 x30)] a ∧ Hp w0 (rd kByte A1_ c1_ a1 :: rd (kSlice kByte) A2_ c2_ a2 :: ps) (obj_ref18_Store g0_ g3_ a0 :: obj_ref15_Disk g3_ x31 :: fs) w) ?_ ?_
  ·skip
   by_cases c33 : x27 = 0
   ·rw [if_pos c33] at k_31
    rw [decide_eq_true c33] at F
    refine wp_cond_true (F.ev rfl) ?_
    refine wp_region_lit ?_
    refine mv F rfl fun a F => ?_
    refine qw F (r_nc (F.t 67 rfl)) fun a F => ?_
    refine qw F (r_fa (off := 0) (F.t 68 rfl) fa101_0) fun a F => ?_
    refine qw F (r_ld (F.t 69 rfl) (cel_cell (o := 0) (H.cell 1 rfl) rfl) one54) fun a F => ?_
    obtain ⟨⟨x34, x35⟩, e36, k_31⟩ := Option.bind_eq_some_iff.1 k_31
    try dsimp only at k_31
    refine ls (call F Try.func30 (ref15_Disk_Sync_ok (H) e36) rfl rfl fun v w hR a F => ?_)
    obtain ⟨rfl, H⟩ := hR
    refine as_ F rfl fun a F => ?_
    refine wpList_nil ?_
    replace F := F.only [10, 0, 1, 2, 8, 9] (l' := [(10, _), (0, _), (1, _), (2, _), (8, _), (9, _)]) rfl
    replace H := Hp.closeO_ref18_Store (x := a0) (H.f1) 0 rfl 1 rfl 2 rfl
    try dsimp only at k_31
    obtain rfl := Option.some.inj k_31
    exact ⟨_, _, rfl, F.only [0, 1, 2, 8, 9, 10] rfl, H.px2.px1.px0⟩
   rw [if_neg c33] at k_31
   rw [decide_eq_false c33] at F
   refine wp_cond_false (F.ev rfl) ?_
   refine wp_skip ?_
   replace H := Hp.closeO_ref18_Store (x := a0) (H.f1) 0 rfl 1 rfl 2 rfl
   try dsimp only at k_31
   obtain rfl := Option.some.inj k_31
   exact ⟨_, _, rfl, F.only [0, 1, 2, 8, 9, 10] rfl, H.px2.px1.px0⟩
  rintro a w ⟨x30, x31, rfl, F, H⟩
  try dsimp only at h F H
  refine wp_seq ?_
  refine rg ?_
  refine mv F rfl fun a F => ?_
  refine qw F (r_ne (F.t 72 rfl) (F.k (.int .i64 0))) fun a F => ?_
  refine rgend ?_
  by_cases c37 : x30 ≠ 0
  ·rw [if_pos c37] at h
   rw [decide_eq_true c37] at F
   refine wp_cond_true (F.ev rfl) ?_
   refine rg ?_
   refine mv F rfl fun a F => ?_
   refine qw F (r_nc (F.t 74 rfl)) fun a F => ?_
   refine qw F (r_fa (off := 8) (F.t 75 rfl) fa101_5) fun a F => ?_
   obtain ⟨A38, c39, A40, c41, A42, c43, H⟩ := Hp.openO_ref18_Store (H)
   refine sto F [.bool true] [.pointer (some ⟨g3_, 0, none⟩), .int .i64 a0.R.Gen, .slice A38 a0.R.State.length c39, .slice A40 a0.R.Kept.length c41, .slice A42 a0.R.More.length c43, .bool a0.Is, .int .i64 a0.Half, .bool a0.Begun, .bool true] H rfl rfl sz4 fun w a H F => ?_
   refine rgend ?_
   replace F := F.only [10] (l' := [(10, _)]) rfl
   refine rg ?_
   refine mv F rfl fun a F => ?_
   refine as_ F rfl fun a F => ?_
   refine rgend ?_
   refine wp_ret ?_
   replace H := Hp.closeO_ref18_Store (x := (⟨a0.R, a0.Is, a0.Half, a0.Begun, true⟩ : ref18_Store)) (H) 0 rfl 1 rfl 2 rfl
   try dsimp only at h
   obtain ⟨rfl, hx_0⟩ := Prod.mk.inj (Option.some.inj h)
   obtain ⟨rfl, rfl⟩ := Prod.mk.inj hx_0
   exact RET _ _ (ret1 F rfl rfl ⟨_, rfl, rfl, H.px4.px3.px2.px1.px0⟩)
  rw [if_neg c37] at h
  rw [decide_eq_false c37] at F
  refine wp_cond_false (F.ev rfl) ?_
  refine wp_skip ?_
  refine rg ?_
  iterate 2 refine mv F rfl fun a F => ?_
  refine qw F (r_add (F.t 79 rfl) (F.k (.int .i64 1))) fun a F => ?_
  refine ls (lbs F H (e := 5) (vs := []) (cs := []) rfl (fun w => by kernel_rfl) fun g44 w a H F => ?_)
  refine mv F rfl fun a F => ?_
  replace H := Hp.litOwn (kd := kByte) (xs := []) (H) (SayL.nil) (Nat.le_of_ble_eq_true rfl)
  obtain ⟨c45, h⟩ := guardO h
  obtain ⟨A46, c47, _, hr, H⟩ := Hp.appendRd (kd := kByte) (xs := []) (ys := a1) (H) 0 rfl (F.t 81 rfl) (F.t 82 rfl) Try.underlying29 ti5 rfl (by decide) (by decide) c45
  rw [List.nil_append] at hr H
  refine qw F (hr _ _ _ _ _) fun a F => ?_
  refine mv F rfl fun a F => ?_
  obtain ⟨x48, e49, h⟩ := Option.bind_eq_some_iff.1 h
  try dsimp only at h
  refine ls (call F Try.func88 (ref18_own_ok (H.p1) e49) rfl rfl fun v w hR a F => ?_)
  obtain ⟨A50, c51, rfl, H⟩ := hR
  refine ls (lbd F (vs := [(0, .int .i64 (IntKind.i64.wrap ((max x13 x15) + 1))), (1, .slice A46 a1.length c47), (2, .slice A50 x48.length c51)]) (cs := [.int .i64 (IntKind.i64.wrap ((max x13 x15) + 1)), .slice A46 a1.length c47, .slice A50 x48.length c51, .slice none 0 0]) rfl (fun w => by kernel_rfl) fun a F => ?_)
  refine qw F (r_nc (F.t 78 rfl)) fun a F => ?_
  refine qw F (r_fa (off := 1) (F.t 87 rfl) fa101_1) fun a F => ?_
  obtain ⟨A52, c53, A54, c55, A56, c57, H⟩ := Hp.openO_ref18_Store (H.f3.f2.f2.f3)
  refine sto F [.int .i64 (IntKind.i64.wrap ((max x13 x15) + 1)), .slice A46 a1.length c47, .slice A50 x48.length c51, .slice none 0 0] [.pointer (some ⟨g3_, 0, none⟩), .int .i64 (IntKind.i64.wrap ((max x13 x15) + 1)), .slice A46 a1.length c47, .slice A50 x48.length c51, .slice none 0 0, .bool a0.Is, .int .i64 a0.Half, .bool a0.Begun, .bool a0.Broken] H rfl rfl sz32 fun w a H F => ?_
  refine rgend ?_
  replace F := F.only [0, 9] (l' := [(0, _), (9, _)]) rfl
  refine rg ?_
  refine mv F rfl fun a F => ?_
  refine qw F (r_nc (F.t 89 rfl)) fun a F => ?_
  refine qw F (r_fa (off := 5) (F.t 90 rfl) fa101_2) fun a F => ?_
  refine sto F [.bool true] [.pointer (some ⟨g3_, 0, none⟩), .int .i64 (IntKind.i64.wrap ((max x13 x15) + 1)), .slice A46 a1.length c47, .slice A50 x48.length c51, .slice none 0 0, .bool true, .int .i64 a0.Half, .bool a0.Begun, .bool a0.Broken] H rfl rfl sz4 fun w a H F => ?_
  refine rgend ?_
  refine rg ?_
  iterate 2 refine mv F rfl fun a F => ?_
  refine qw F (r_nc (F.t 92 rfl)) fun a F => ?_
  refine qw F (r_fa (off := 6) (F.t 94 rfl) fa101_3) fun a F => ?_
  refine sto F [.int .i64 x18] [.pointer (some ⟨g3_, 0, none⟩), .int .i64 (IntKind.i64.wrap ((max x13 x15) + 1)), .slice A46 a1.length c47, .slice A50 x48.length c51, .slice none 0 0, .bool true, .int .i64 x18, .bool a0.Begun, .bool a0.Broken] H rfl rfl sz3 fun w a H F => ?_
  refine rgend ?_
  replace F := F.only [0] (l' := [(0, _)]) rfl
  refine rg ?_
  refine mv F rfl fun a F => ?_
  refine qw F (r_nc (F.t 96 rfl)) fun a F => ?_
  refine qw F (r_fa (off := 7) (F.t 97 rfl) fa101_4) fun a F => ?_
  refine sto F [.bool true] [.pointer (some ⟨g3_, 0, none⟩), .int .i64 (IntKind.i64.wrap ((max x13 x15) + 1)), .slice A46 a1.length c47, .slice A50 x48.length c51, .slice none 0 0, .bool true, .int .i64 x18, .bool true, .bool a0.Broken] H rfl rfl sz4 fun w a H F => ?_
  refine rgend ?_
  replace F := F.only [] (l' := []) rfl
  refine rg ?_
  refine as_ F (v := .int .i64 0) rfl fun a F => ?_
  refine rgend ?_
  refine wp_ret ?_
  replace H := (H.f3.f2.f2.f3).freeze
  replace H := (H.f2.f1.f2).freeze
  replace H := H.nilRd (kSlice kByte)
  replace H := Hp.closeO_ref18_Store (x := (⟨⟨IntKind.i64.wrap ((max x13 x15) + 1), a1, x48, []⟩, true, x18, true, a0.Broken⟩ : ref18_Store)) (H) 2 rfl 1 rfl 0 rfl
  try dsimp only at h
  obtain ⟨rfl, hx_0⟩ := Prod.mk.inj (Option.some.inj h)
  obtain ⟨rfl, rfl⟩ := Prod.mk.inj hx_0
  exact RET _ _ (ret1 F rfl rfl ⟨_, rfl, rfl, H.px7.px6.px5.px4.px3.px2.px1.px0⟩)
 rw [if_neg c10] at h
 rw [Bool.eq_false_iff.2 c10] at F
 refine wp_cond_true (F.ev rfl) ?_
 refine rg ?_
 refine as_ F (v := .int .i64 1) rfl fun a F => ?_
 refine rgend ?_
 replace F := F.only [6] (l' := [(6, _)]) rfl
 refine wp_ret ?_
 replace H := Hp.closeO_ref18_Store (x := a0) (H) 0 rfl 1 rfl 2 rfl
 try dsimp only at h
 obtain ⟨rfl, hx_0⟩ := Prod.mk.inj (Option.some.inj h)
 obtain ⟨rfl, rfl⟩ := Prod.mk.inj hx_0
 exact RET _ _ (ret1 F rfl rfl ⟨_, rfl, rfl, H.px4.px3.px2.px1.px0⟩)
def ref18_Store_Append_f (a0 : ref18_Store) (a1 : List Int) (a2 : ref15_Disk) : Option (Int × ref18_Store × ref15_Disk) :=
 (if a0.Broken = true then some (43, a0, a2) else (if a0.Begun = true then ((ref18_half_f a2).bind fun x9 => ((ref17_Put_f a2 (IntKind.i64.wrap (a0.Half * x9)) x9 a0.R a1).bind fun (x11, x12) => (((if x11 = 0 then ((ref18_own_f a0.R.More).bind fun x17 => (if (0 + a1.length) * 1 ≤ 140737488355328 then (if (x17.length + 1) * 24 ≤ 140737488355328 then some (((⟨⟨a0.R.Gen, a0.R.State, a0.R.Kept, (x17 ++ ([a1]))⟩, a0.Is, a0.Half, a0.Begun, a0.Broken⟩ : ref18_Store))) else none) else none)) else some a0) : Option (ref18_Store)).bind fun x14 => some (x11, x14, x12)))) else some (43, a0, a2)))
theorem ref18_Store_Append_ok {w0 w : World} {ps : List PF} {fs : List SF} {a0 : ref18_Store} {g0_ : Nat} {a1 : List Int} {A1_ : Option Addr} {c1_ : Nat} {a2 : ref15_Disk} {g2_ : Nat} {r0 : Int} {s0 : ref18_Store} {s2 : ref15_Disk} (H : Hp w0 (rd kByte A1_ c1_ a1 :: ps) (obj_ref18_Store g0_ g2_ a0 :: obj_ref15_Disk g2_ a2 :: fs) w) (h : ref18_Store_Append_f a0 a1 a2 = some (r0, s0, s2)) :
  Calls Try.prog 71 [pt g0_, .slice A1_ a1.length c1_].toArray w fun e w' => ∃ v, e = .returned v ∧ v = .int .i64 r0 ∧ Hp w0 ps (obj_ref18_Store g0_ g2_ s0 :: obj_ref15_Disk g2_ s2 :: fs) w' := by
 refine enter [pt g0_, .slice A1_ a1.length c1_] 58 Try.func71 fun Q a NP RET NRM F => ?_
 replace NP := np NP
 unfold ref18_Store_Append_f at h
 refine rg ?_
 refine as_ F (v := .int .i64 0) rfl fun a F => ?_
 refine rgend ?_
 refine wp_seq ?_
 refine rg ?_
 refine mv F rfl fun a F => ?_
 refine qw F (r_nc (F.t 7 rfl)) fun a F => ?_
 refine qw F (r_fa (off := 8) (F.t 8 rfl) fa101_5) fun a F => ?_
 obtain ⟨A1, c2, A3, c4, A5, c6, H⟩ := Hp.openO_ref18_Store (H)
 refine qw F (r_ld (F.t 9 rfl) (cel_cell (o := 8) (H.cell 0 rfl) rfl) one4) fun a F => ?_
 refine mv F rfl fun a F => ?_
 by_cases c7 : a0.Broken = true
 ·rw [if_pos c7] at h
  rw [c7] at F
  iterate 5 refine of_ F fun a F => ?_
  refine qw F (r_pickT (F.t 11 rfl) (F.k (.bool true))) fun a F => ?_
  refine rgend ?_
  replace F := F.only [17, 0, 1] (l' := [(17, _), (0, _), (1, _)]) rfl
  refine wp_cond_true (F.ev rfl) ?_
  refine rg ?_
  refine as_ F (v := .int .i64 43) rfl fun a F => ?_
  refine rgend ?_
  refine wp_ret ?_
  replace H := Hp.closeO_ref18_Store (x := a0) (H) 0 rfl 1 rfl 2 rfl
  try dsimp only at h
  obtain ⟨rfl, hx_0⟩ := Prod.mk.inj (Option.some.inj h)
  obtain ⟨rfl, rfl⟩ := Prod.mk.inj hx_0
  exact RET _ _ (ret1 F rfl rfl ⟨_, rfl, rfl, H.px3.px2.px1.px0⟩)
 rw [if_neg c7] at h
 rw [Bool.eq_false_iff.2 c7] at F
 refine mv F rfl fun a F => ?_
 refine qw F (r_nc (F.t 12 rfl)) fun a F => ?_
 refine qw F (r_fa (off := 7) (F.t 13 rfl) fa101_4) fun a F => ?_
 refine qw F (r_ld (F.t 14 rfl) (cel_cell (o := 7) (H.cell 0 rfl) rfl) one4) fun a F => ?_
 refine qw F (r_not (F.t 15 rfl)) fun a F => ?_
 refine qw F (r_pickF (F.t 11 rfl) (F.t 16 rfl)) fun a F => ?_
 refine rgend ?_
 replace F := F.only [17, 0, 1] (l' := [(17, _), (0, _), (1, _)]) rfl
 by_cases c8 : a0.Begun = true
 ·rw [if_pos c8] at h
  rw [c8] at F
  refine wp_cond_false (F.ev rfl) ?_
  refine wp_skip ?_
  refine rg ?_
  refine mv F rfl fun a F => ?_
  refine qw F (r_nc (F.t 18 rfl)) fun a F => ?_
  refine qw F (r_fa (off := 0) (F.t 19 rfl) fa101_0) fun a F => ?_
  refine qw F (r_ld (F.t 20 rfl) (cel_cell (o := 0) (H.cell 0 rfl) rfl) one54) fun a F => ?_
  obtain ⟨x9, e10, h⟩ := Option.bind_eq_some_iff.1 h
  try dsimp only at h
  refine ls (call F Try.func62 (ref18_half_ok (H.f1) e10) rfl rfl fun v w hR a F => ?_)
  obtain ⟨rfl, H⟩ := hR
  refine as_ F rfl fun a F => ?_
  refine rgend ?_
  replace F := F.only [5, 0, 1] (l' := [(5, _), (0, _), (1, _)]) rfl
  refine wp_seq ?_
  replace H := H.drew
  have HS := H.fx0
  refine dr (fun w => Hp w0 (rd kByte A1 c2 a0.R.State :: rd (kSlice kByte) A3 c4 a0.R.Kept :: rd (kSlice kByte) A5 c6 a0.R.More :: rd kByte A1_ c1_ a1 :: ps) (cel g0_ [pt g2_, .int .i64 a0.R.Gen, .slice A1 a0.R.State.length c2, .slice A3 a0.R.Kept.length c4, .slice A5 a0.R.More.length c6, .bool a0.Is, .int .i64 a0.Half, .bool a0.Begun, .bool a0.Broken] 101 :: fs) w) _ (by kernel_rfl) ?_ (n := 18)
  refine dk 0 F rfl NP HS (fun w S => (r_mv (F.t 0 rfl))) fun a F => ?_
  refine dk 1 F rfl NP HS (fun w S => (r_nc (F.t 23 rfl))) fun a F => ?_
  refine dk 2 F rfl NP HS (fun w S => (r_fa (off := 0) (F.t 24 rfl) fa101_0)) fun a F => ?_
  refine dk 3 F rfl NP HS (fun w S => (r_ld (F.t 25 rfl) (cel_cell (o := 0) (S.cell 0 rfl) rfl) one54)) fun a F => ?_
  refine dk 4 F rfl NP HS (fun w S => (r_mv (F.t 0 rfl))) fun a F => ?_
  refine dk 5 F rfl NP HS (fun w S => (r_nc (F.t 27 rfl))) fun a F => ?_
  refine dk 6 F rfl NP HS (fun w S => (r_fa (off := 6) (F.t 28 rfl) fa101_3)) fun a F => ?_
  refine dk 7 F rfl NP HS (fun w S => (r_ld (F.t 29 rfl) (cel_cell (o := 6) (S.cell 0 rfl) rfl) one3)) fun a F => ?_
  refine dk 8 F rfl NP HS (fun w S => (r_mv (F.t 5 rfl))) fun a F => ?_
  refine dk 9 F rfl NP HS (fun w S => (r_mul (F.t 30 rfl) (F.t 31 rfl))) fun a F => ?_
  refine dk 10 F rfl NP HS (fun w S => (r_mv (F.t 5 rfl))) fun a F => ?_
  refine dk 11 F rfl NP HS (fun w S => (r_mv (F.t 0 rfl))) fun a F => ?_
  refine dk 12 F rfl NP HS (fun w S => (r_nc (F.t 34 rfl))) fun a F => ?_
  refine dk 13 F rfl NP HS (fun w S => (r_fa (off := 1) (F.t 35 rfl) fa101_1)) fun a F => ?_
  refine dk 14 F rfl NP HS (fun w S => (r_ldA (F.t 36 rfl) (cel_range (o := 1) (n := 4) (vs := [.int .i64 a0.R.Gen, .slice A1 a0.R.State.length c2, .slice A3 a0.R.Kept.length c4, .slice A5 a0.R.More.length c6]) (S.cell 0 rfl) rfl) agg32 rfl)) fun a F => ?_
  refine dk 15 F rfl NP HS (fun w S => (r_mv (F.t 1 rfl))) fun a F => ?_
  obtain ⟨⟨x11, x12⟩, e13, h⟩ := Option.bind_eq_some_iff.1 h
  try dsimp only at h
  refine d1 16 rfl (by kernel_rfl) (call F Try.func87 (ref17_Put_ok (a3 := a0.R) (H.p3.p3.p3.p3) e13) rfl rfl fun v w hR a F => ?_)
  obtain ⟨rfl, H⟩ := hR
  have HS := H.fx0
  refine kg _ HS (fun w S => S) ?_
  refine dk 17 F rfl NP HS (fun w S => (r_as (F.t 39 rfl))) fun a F => ?_
  refine ddone (by kernel_rfl) ?_
  replace F := F.only [6, 0, 1] (l' := [(6, _), (0, _), (1, _)]) rfl
  refine wp_seq ?_
  refine rg ?_
  refine mv F rfl fun a F => ?_
  refine qw F (r_eq (F.t 40 rfl) (F.k (.int .i64 0))) fun a F => ?_
  refine rgend ?_
  obtain ⟨o_14, k_14, h⟩ := Option.bind_eq_some_iff.1 h
  refine cut (fun a w => ∃ (x14 : ref18_Store), x14 = o_14 ∧ Fr 58 [] [(6, .int .i64 x11)] a ∧ Hp w0 ps (obj_ref15_Disk g2_ x12 :: obj_ref18_Store g0_ g2_ x14 :: fs) w) ?_ ?_
  ·skip
   by_cases c16 : x11 = 0
   ·rw [if_pos c16] at k_14
    rw [decide_eq_true c16] at F
    refine wp_cond_true (F.ev rfl) ?_
    refine wp_region_lit ?_
    iterate 2 refine mv F rfl fun a F => ?_
    refine qw F (r_nc (F.t 43 rfl)) fun a F => ?_
    refine qw F (r_fa (off := 1) (F.t 44 rfl) fa101_1) fun a F => ?_
    refine qw F (r_fa (off := 3) (F.t 45 rfl) fa32_3) fun a F => ?_
    refine qw F (r_ld (F.t 46 rfl) (cel_cell (o := 4) (H.cell 1 rfl) rfl) one30) fun a F => ?_
    obtain ⟨x17, e18, k_14⟩ := Option.bind_eq_some_iff.1 k_14
    try dsimp only at k_14
    refine ls (call F Try.func88 (ref18_own_ok (H.p2) e18) rfl rfl fun v w hR a F => ?_)
    obtain ⟨A19, c20, rfl, H⟩ := hR
    refine ls (lbs F H (e := 5) (vs := []) (cs := []) rfl (fun w => by kernel_rfl) fun g21 w a H F => ?_)
    refine mv F rfl fun a F => ?_
    replace H := Hp.litOwn (kd := kByte) (xs := []) (H) (SayL.nil) (Nat.le_of_ble_eq_true rfl)
    obtain ⟨c22, k_14⟩ := guardO k_14
    obtain ⟨A23, c24, _, hr, H⟩ := Hp.appendRd (kd := kByte) (xs := []) (ys := a1) (H) 3 rfl (F.t 49 rfl) (F.t 50 rfl) Try.underlying29 ti5 rfl (by decide) (by decide) c22
    rw [List.nil_append] at hr H
    refine qw F (hr _ _ _ _ _) fun a F => ?_
    replace H := (H).freeze
    refine ls (lbs F H (e := 29) (vs := [(0, .slice A23 a1.length c24)]) (cs := [.slice A23 a1.length c24]) rfl (fun w => by kernel_rfl) fun g25 w a H F => ?_)
    obtain ⟨c26, k_14⟩ := guardO k_14
    obtain ⟨A27, c28, _, hr, H⟩ := Hp.appendCelL (kd := (kSlice kByte)) (xs := x17) (ys := [a1]) (H.f3.f3.f2.f3) (F.t 48 rfl) (F.t 52 rfl) Try.underlying30 ti29 rfl (by decide) (by decide) rfl ((SayL.cons (kd := (kSlice kByte)) (c1 := [.slice A23 a1.length c24]) (y := a1) (fun Z hp => ⟨A23, c24, rfl, pat hp 0 rfl⟩) SayL.nil)) c26
    refine qw F (hr _ _ _ _ _) fun a F => ?_
    refine qw F (r_nc (F.t 42 rfl)) fun a F => ?_
    refine qw F (r_fa (off := 1) (F.t 54 rfl) fa101_1) fun a F => ?_
    refine qw F (r_fa (off := 3) (F.t 55 rfl) fa32_3) fun a F => ?_
    refine sto F [.slice A27 ((x17 ++ ([a1]))).length c28] [.pointer (some ⟨g2_, 0, none⟩), .int .i64 a0.R.Gen, .slice A1 a0.R.State.length c2, .slice A3 a0.R.Kept.length c4, .slice A27 ((x17 ++ ([a1]))).length c28, .bool a0.Is, .int .i64 a0.Half, .bool a0.Begun, .bool a0.Broken] H.f1.f1.f2 rfl rfl sz30 fun w a H F => ?_
    refine wpList_nil ?_
    replace F := F.only [6] (l' := [(6, _)]) rfl
    replace H := (H.f2.f1.f2).freeze
    replace H := Hp.closeO_ref18_Store (x := (⟨⟨a0.R.Gen, a0.R.State, a0.R.Kept, (x17 ++ ([a1]))⟩, a0.Is, a0.Half, a0.Begun, a0.Broken⟩ : ref18_Store)) (H) 2 rfl 3 rfl 0 rfl
    try dsimp only at k_14
    obtain rfl := Option.some.inj k_14
    exact ⟨_, rfl, F.only [6] rfl, H.px5.px4.px3.px2.px1.px0.f1⟩
   rw [if_neg c16] at k_14
   rw [decide_eq_false c16] at F
   refine wp_cond_false (F.ev rfl) ?_
   refine wp_skip ?_
   replace H := Hp.closeO_ref18_Store (x := a0) (H.f1) 0 rfl 1 rfl 2 rfl
   try dsimp only at k_14
   obtain rfl := Option.some.inj k_14
   exact ⟨_, rfl, F.only [6] rfl, H.px3.px2.px1.px0.f1⟩
  rintro a w ⟨x14, rfl, F, H⟩
  try dsimp only at h F H
  refine rg ?_
  refine mv F rfl fun a F => ?_
  refine as_ F rfl fun a F => ?_
  refine rgend ?_
  refine wp_ret ?_
  try dsimp only at h
  obtain ⟨rfl, hx_0⟩ := Prod.mk.inj (Option.some.inj h)
  obtain ⟨rfl, rfl⟩ := Prod.mk.inj hx_0
  exact RET _ _ (ret1 F rfl rfl ⟨_, rfl, rfl, H.f1⟩)
 rw [if_neg c8] at h
 rw [Bool.eq_false_iff.2 c8] at F
 refine wp_cond_true (F.ev rfl) ?_
 refine rg ?_
 refine as_ F (v := .int .i64 43) rfl fun a F => ?_
 refine rgend ?_
 refine wp_ret ?_
 replace H := Hp.closeO_ref18_Store (x := a0) (H) 0 rfl 1 rfl 2 rfl
 try dsimp only at h
 obtain ⟨rfl, hx_0⟩ := Prod.mk.inj (Option.some.inj h)
 obtain ⟨rfl, rfl⟩ := Prod.mk.inj hx_0
 exact RET _ _ (ret1 F rfl rfl ⟨_, rfl, rfl, H.px3.px2.px1.px0⟩)
def ref18_Store_Sync_f (a0 : ref18_Store) (a1 : ref15_Disk) : Option (Int × ref15_Disk) :=
 (if a0.Broken = true then some (43, a1) else (if a0.Begun = true then ((ref15_Disk_Sync_f a1).bind fun (x9, x10) => some (x9, x10)) else some (43, a1)))
theorem ref18_Store_Sync_ok {w0 w : World} {ps : List PF} {fs : List SF} {a0 : ref18_Store} {g0_ : Nat} {a1 : ref15_Disk} {g1_ : Nat} {r0 : Int} {s1 : ref15_Disk} (H : Hp w0 ps (obj_ref18_Store g0_ g1_ a0 :: obj_ref15_Disk g1_ a1 :: fs) w) (h : ref18_Store_Sync_f a0 a1 = some (r0, s1)) :
  Calls Try.prog 72 [pt g0_].toArray w fun e w' => ∃ v, e = .returned v ∧ v = .int .i64 r0 ∧ Hp w0 ps (obj_ref18_Store g0_ g1_ a0 :: obj_ref15_Disk g1_ s1 :: fs) w' := by
 refine enter [pt g0_] 19 Try.func72 fun Q a NP RET NRM F => ?_
 replace NP := np NP
 unfold ref18_Store_Sync_f at h
 refine rg ?_
 refine as_ F (v := .int .i64 0) rfl fun a F => ?_
 refine rgend ?_
 refine wp_seq ?_
 refine rg ?_
 refine mv F rfl fun a F => ?_
 refine qw F (r_nc (F.t 3 rfl)) fun a F => ?_
 refine qw F (r_fa (off := 8) (F.t 4 rfl) fa101_5) fun a F => ?_
 obtain ⟨A1, c2, A3, c4, A5, c6, H⟩ := Hp.openO_ref18_Store (H)
 refine qw F (r_ld (F.t 5 rfl) (cel_cell (o := 8) (H.cell 0 rfl) rfl) one4) fun a F => ?_
 refine mv F rfl fun a F => ?_
 by_cases c7 : a0.Broken = true
 ·rw [if_pos c7] at h
  rw [c7] at F
  iterate 5 refine of_ F fun a F => ?_
  refine qw F (r_pickT (F.t 7 rfl) (F.k (.bool true))) fun a F => ?_
  refine rgend ?_
  replace F := F.only [13, 0] (l' := [(13, _), (0, _)]) rfl
  refine wp_cond_true (F.ev rfl) ?_
  refine rg ?_
  refine as_ F (v := .int .i64 43) rfl fun a F => ?_
  refine rgend ?_
  refine wp_ret ?_
  replace H := Hp.closeO_ref18_Store (x := a0) (H) 0 rfl 1 rfl 2 rfl
  try dsimp only at h
  obtain ⟨rfl, rfl⟩ := Prod.mk.inj (Option.some.inj h)
  exact RET _ _ (ret1 F rfl rfl ⟨_, rfl, rfl, H.px2.px1.px0⟩)
 rw [if_neg c7] at h
 rw [Bool.eq_false_iff.2 c7] at F
 refine mv F rfl fun a F => ?_
 refine qw F (r_nc (F.t 8 rfl)) fun a F => ?_
 refine qw F (r_fa (off := 7) (F.t 9 rfl) fa101_4) fun a F => ?_
 refine qw F (r_ld (F.t 10 rfl) (cel_cell (o := 7) (H.cell 0 rfl) rfl) one4) fun a F => ?_
 refine qw F (r_not (F.t 11 rfl)) fun a F => ?_
 refine qw F (r_pickF (F.t 7 rfl) (F.t 12 rfl)) fun a F => ?_
 refine rgend ?_
 replace F := F.only [13, 0] (l' := [(13, _), (0, _)]) rfl
 by_cases c8 : a0.Begun = true
 ·rw [if_pos c8] at h
  rw [c8] at F
  refine wp_cond_false (F.ev rfl) ?_
  refine wp_skip ?_
  refine rg ?_
  refine mv F rfl fun a F => ?_
  refine qw F (r_nc (F.t 14 rfl)) fun a F => ?_
  refine qw F (r_fa (off := 0) (F.t 15 rfl) fa101_0) fun a F => ?_
  refine qw F (r_ld (F.t 16 rfl) (cel_cell (o := 0) (H.cell 0 rfl) rfl) one54) fun a F => ?_
  obtain ⟨⟨x9, x10⟩, e11, h⟩ := Option.bind_eq_some_iff.1 h
  try dsimp only at h
  refine ls (call F Try.func30 (ref15_Disk_Sync_ok (H.f1) e11) rfl rfl fun v w hR a F => ?_)
  obtain ⟨rfl, H⟩ := hR
  refine as_ F rfl fun a F => ?_
  refine rgend ?_
  replace F := F.only [2] (l' := [(2, _)]) rfl
  refine wp_ret ?_
  replace H := Hp.closeO_ref18_Store (x := a0) (H.f1) 0 rfl 1 rfl 2 rfl
  try dsimp only at h
  obtain ⟨rfl, rfl⟩ := Prod.mk.inj (Option.some.inj h)
  exact RET _ _ (ret1 F rfl rfl ⟨_, rfl, rfl, H.px2.px1.px0⟩)
 rw [if_neg c8] at h
 rw [Bool.eq_false_iff.2 c8] at F
 refine wp_cond_true (F.ev rfl) ?_
 refine rg ?_
 refine as_ F (v := .int .i64 43) rfl fun a F => ?_
 refine rgend ?_
 refine wp_ret ?_
 replace H := Hp.closeO_ref18_Store (x := a0) (H) 0 rfl 1 rfl 2 rfl
 try dsimp only at h
 obtain ⟨rfl, rfl⟩ := Prod.mk.inj (Option.some.inj h)
 exact RET _ _ (ret1 F rfl rfl ⟨_, rfl, rfl, H.px2.px1.px0⟩)
def law18_plain_f (a0 : ref15_Disk) (a1 : ref18_Store) (a2 : law18_Op) : Option (ref18_Store × Int × ref15_Disk) :=
 (((if a2.What = 2 then some true else (((if a2.What = 3 then some true else some ((decide (a2.What = 4)))) : Option (Bool)).bind fun x5 => some x5)) : Option (Bool)).bind fun x2 => (if x2 = true then ((ref18_Store_Append_f a1 a2.Entry a0).bind fun (x9, x10, x11) => some (x10, x9, x11)) else (if a2.What = 5 then ((ref18_Store_Sync_f a1 a0).bind fun (x14, x15) => some (a1, x14, x15)) else (if a2.What = 6 then ((ref15_Disk_Fuse_f a0 a2.N).bind fun x18 => some (a1, 0, x18)) else (if a2.What = 7 then ((ref15_Disk_Crash_f a0 a2.Keep a2.N).bind fun x21 => ((ref18_Open_f x21).bind fun x23 => some (x23, 0, x21))) else ((ref18_Store_Begin_f a1 a2.State a2.Kept a0).bind fun (x26, x27, x28) => some (x27, x26, x28)))))))
theorem law18_plain_ok {w0 w : World} {ps : List PF} {fs : List SF} {a0 : ref15_Disk} {g0_ : Nat} {a1 : ref18_Store} {g1_ : Nat} {a2 : law18_Op} {A2_1 : Option Addr} {c2_1 : Nat} {A2_2 : Option Addr} {c2_2 : Nat} {A2_3 : Option Addr} {c2_3 : Nat} {A2_5 : Option Addr} {c2_5 : Nat} {r0 : ref18_Store} {r1 : Int} {s0 : ref15_Disk} (H : Hp w0 (rd kByte A2_1 c2_1 a2.State :: rd (kSlice kByte) A2_2 c2_2 a2.Kept :: rd kByte A2_3 c2_3 a2.Entry :: rd kBool A2_5 c2_5 a2.Keep :: ps) (obj_ref15_Disk g0_ a0 :: obj_ref18_Store g1_ g0_ a1 :: fs) w) (h : law18_plain_f a0 a1 a2 = some (r0, r1, s0)) :
  Calls Try.prog 33 [pt g0_, pt g1_, .agg #[.int .i64 a2.What, .slice A2_1 a2.State.length c2_1, .slice A2_2 a2.Kept.length c2_2, .slice A2_3 a2.Entry.length c2_3, .int .i64 a2.N, .slice A2_5 a2.Keep.length c2_5]].toArray w fun e w' => ∃ v, e = .returned v ∧ ∃ (g0 : Nat), v = .tuple #[pt g0, .int .i64 r1] ∧ Hp w0 ps (obj_ref18_Store g0 g0_ r0 :: obj_ref15_Disk g0_ s0 :: fs) w' := by
 refine enter [pt g0_, pt g1_, .agg #[.int .i64 a2.What, .slice A2_1 a2.State.length c2_1, .slice A2_2 a2.Kept.length c2_2, .slice A2_3 a2.Entry.length c2_3, .int .i64 a2.N, .slice A2_5 a2.Keep.length c2_5]] 48 Try.func33 fun Q a NP RET NRM F => ?_
 replace NP := np NP
 unfold law18_plain_f at h
 refine rg ?_
 refine ls (lbox F H rfl (cs := [.int .i64 a2.What, .slice A2_1 a2.State.length c2_1, .slice A2_2 a2.Kept.length c2_2, .slice A2_3 a2.Entry.length c2_3, .int .i64 a2.N, .slice A2_5 a2.Keep.length c2_5]) rfl fun g1 w a H F => ?_)
 refine as_ F (v := .pointer none) rfl fun a F => ?_
 refine as_ F (v := .int .i64 0) rfl fun a F => ?_
 refine rgend ?_
 refine wp_seq ?_
 refine rg ?_
 refine qw F (r_fa (off := 0) (F.t 5 rfl) fa35_0) fun a F => ?_
 refine qw F (r_ld (F.t 8 rfl) (cel_cell (o := 0) (H.cell 0 rfl) rfl) one3) fun a F => ?_
 refine rgend ?_
 replace F := F.only [9, 5, 0, 1] (l' := [(9, _), (5, _), (0, _), (1, _)]) rfl
 refine wp_block ?_
 refine wp_seq ?_
 refine rg ?_
 refine qw F (r_eq (F.t 9 rfl) (F.k (.int .i64 2))) fun a F => ?_
 refine as_ F rfl fun a F => ?_
 refine rgend ?_
 obtain ⟨o_2, k_2, h⟩ := Option.bind_eq_some_iff.1 h
 refine cut (fun a w => ∃ (x2 : Bool), x2 = o_2 ∧ Fr 48 [] [(0, pt g0_), (1, pt g1_), (5, pt g1), (9, .int .i64 a2.What), (10, .bool x2)] a ∧ Hp w0 (rd kByte A2_1 c2_1 a2.State :: rd (kSlice kByte) A2_2 c2_2 a2.Kept :: rd kByte A2_3 c2_3 a2.Entry :: rd kBool A2_5 c2_5 a2.Keep :: ps) (obj_ref18_Store g1_ g0_ a1 :: obj_ref15_Disk g0_ a0 :: cel g1 [.int .i64 a2.What, .slice A2_1 a2.State.length c2_1, .slice A2_2 a2.Kept.length c2_2, .slice A2_3 a2.Entry.length c2_3, .int .i64 a2.N, .slice A2_5 a2.Keep.length c2_5] 35 :: fs) w) ?_ ?_
 ·skip
  by_cases c4 : a2.What = 2
  ·rw [if_pos c4] at k_2
   rw [decide_eq_true c4] at F
   refine wp_cond_true (F.ev rfl) ?_
   refine wp_skip ?_
   try dsimp only at k_2
   obtain rfl := Option.some.inj k_2
   exact ⟨_, rfl, F.only [0, 1, 5, 9, 10] rfl, H.f1.f2⟩
  rw [if_neg c4] at k_2
  rw [decide_eq_false c4] at F
  refine wp_cond_false (F.ev rfl) ?_
  refine rg ?_
  refine qw F (r_eq (F.t 9 rfl) (F.k (.int .i64 3))) fun a F => ?_
  refine as_ F rfl fun a F => ?_
  refine rgend ?_
  obtain ⟨o_5, k_5, k_2⟩ := Option.bind_eq_some_iff.1 k_2
  refine cut (fun a w => ∃ (x5 : Bool), x5 = o_5 ∧ Fr 48 [] [(0, pt g0_), (1, pt g1_), (5, pt g1), (9, .int .i64 a2.What), (10, .bool x5)] a ∧ Hp w0 (rd kByte A2_1 c2_1 a2.State :: rd (kSlice kByte) A2_2 c2_2 a2.Kept :: rd kByte A2_3 c2_3 a2.Entry :: rd kBool A2_5 c2_5 a2.Keep :: ps) (obj_ref18_Store g1_ g0_ a1 :: obj_ref15_Disk g0_ a0 :: cel g1 [.int .i64 a2.What, .slice A2_1 a2.State.length c2_1, .slice A2_2 a2.Kept.length c2_2, .slice A2_3 a2.Entry.length c2_3, .int .i64 a2.N, .slice A2_5 a2.Keep.length c2_5] 35 :: fs) w) ?_ ?_
  ·skip
   by_cases c7 : a2.What = 3
   ·rw [if_pos c7] at k_5
    rw [decide_eq_true c7] at F
    refine wp_cond_true (F.ev rfl) ?_
    refine wp_skip ?_
    try dsimp only at k_5
    obtain rfl := Option.some.inj k_5
    exact ⟨_, rfl, F.only [0, 1, 5, 9, 10] rfl, H.f1.f2⟩
   rw [if_neg c7] at k_5
   rw [decide_eq_false c7] at F
   refine wp_cond_false (F.ev rfl) ?_
   refine wp_region_lit ?_
   refine qw F (r_eq (F.t 9 rfl) (F.k (.int .i64 4))) fun a F => ?_
   refine as_ F rfl fun a F => ?_
   refine wpList_nil ?_
   replace F := F.only [10, 9, 5, 0, 1] (l' := [(10, _), (9, _), (5, _), (0, _), (1, _)]) rfl
   try dsimp only at k_5
   obtain rfl := Option.some.inj k_5
   exact ⟨_, rfl, F.only [0, 1, 5, 9, 10] rfl, H.f1.f2⟩
  rintro a w ⟨x5, rfl, F, H⟩
  try dsimp only at k_2 F H
  try dsimp only at k_2
  obtain rfl := Option.some.inj k_2
  exact ⟨_, rfl, F.only [0, 1, 5, 9, 10] rfl, H⟩
 rintro a w ⟨x2, rfl, F, H⟩
 try dsimp only at h F H
 by_cases c8 : x2 = true
 ·rw [if_pos c8] at h
  rw [c8] at F
  refine wp_cond_true (F.ev rfl) ?_
  refine rg ?_
  iterate 2 refine mv F rfl fun a F => ?_
  refine qw F (r_fa (off := 3) (F.t 5 rfl) fa35_3) fun a F => ?_
  refine qw F (r_ld (F.t 16 rfl) (cel_cell (o := 3) (H.cell 2 rfl) rfl) one29) fun a F => ?_
  obtain ⟨⟨x9, x10, x11⟩, e12, h⟩ := Option.bind_eq_some_iff.1 h
  try dsimp only at h
  refine ls (call F Try.func71 (ref18_Store_Append_ok (H.p2) e12) rfl rfl fun v w hR a F => ?_)
  obtain ⟨rfl, H⟩ := hR
  iterate 2 refine as_ F rfl fun a F => ?_
  refine rgend ?_
  replace F := F.only [7, 6] (l' := [(7, _), (6, _)]) rfl
  refine wp_ret ?_
  try dsimp only at h
  obtain ⟨rfl, hx_0⟩ := Prod.mk.inj (Option.some.inj h)
  obtain ⟨rfl, rfl⟩ := Prod.mk.inj hx_0
  exact RET _ _ (ret2 F rfl rfl rfl ⟨_, rfl, g1_, rfl, H.px3.px2.px1.px0.fx2⟩)
 rw [if_neg c8] at h
 rw [Bool.eq_false_iff.2 c8] at F
 refine wp_cond_false (F.ev rfl) ?_
 refine rg ?_
 refine qw F (r_eq (F.t 9 rfl) (F.k (.int .i64 5))) fun a F => ?_
 refine as_ F rfl fun a F => ?_
 refine rgend ?_
 by_cases c13 : a2.What = 5
 ·rw [if_pos c13] at h
  rw [decide_eq_true c13] at F
  refine wp_cond_true (F.ev rfl) ?_
  refine rg ?_
  iterate 2 refine mv F rfl fun a F => ?_
  obtain ⟨⟨x14, x15⟩, e16, h⟩ := Option.bind_eq_some_iff.1 h
  try dsimp only at h
  refine ls (call F Try.func72 (ref18_Store_Sync_ok (H) e16) rfl rfl fun v w hR a F => ?_)
  obtain ⟨rfl, H⟩ := hR
  iterate 2 refine as_ F rfl fun a F => ?_
  refine rgend ?_
  replace F := F.only [7, 6] (l' := [(7, _), (6, _)]) rfl
  refine wp_ret ?_
  try dsimp only at h
  obtain ⟨rfl, hx_0⟩ := Prod.mk.inj (Option.some.inj h)
  obtain ⟨rfl, rfl⟩ := Prod.mk.inj hx_0
  exact RET _ _ (ret2 F rfl rfl rfl ⟨_, rfl, g1_, rfl, H.px3.px2.px1.px0.fx2⟩)
 rw [if_neg c13] at h
 rw [decide_eq_false c13] at F
 refine wp_cond_false (F.ev rfl) ?_
 refine rg ?_
 refine qw F (r_eq (F.t 9 rfl) (F.k (.int .i64 6))) fun a F => ?_
 refine as_ F rfl fun a F => ?_
 refine rgend ?_
 replace F := F.only [24, 0, 1, 5, 9] (l' := [(24, _), (0, _), (1, _), (5, _), (9, _)]) rfl
 by_cases c17 : a2.What = 6
 ·rw [if_pos c17] at h
  rw [decide_eq_true c17] at F
  refine wp_cond_true (F.ev rfl) ?_
  refine rg ?_
  refine mv F rfl fun a F => ?_
  refine qw F (r_fa (off := 4) (F.t 5 rfl) fa35_4) fun a F => ?_
  refine qw F (r_ld (F.t 27 rfl) (cel_cell (o := 4) (H.cell 2 rfl) rfl) one3) fun a F => ?_
  obtain ⟨x18, e19, h⟩ := Option.bind_eq_some_iff.1 h
  try dsimp only at h
  refine ls (call F Try.func73 (ref15_Disk_Fuse_ok (H.f2.f1.f2) e19) rfl rfl fun v w hR a F => ?_)
  obtain ⟨rfl, H⟩ := hR
  refine rgend ?_
  replace F := F.only [1] (l' := [(1, _)]) rfl
  refine rg ?_
  refine mv F rfl fun a F => ?_
  refine as_ F rfl fun a F => ?_
  refine as_ F (v := .int .i64 0) rfl fun a F => ?_
  refine rgend ?_
  refine wp_ret ?_
  try dsimp only at h
  obtain ⟨rfl, hx_0⟩ := Prod.mk.inj (Option.some.inj h)
  obtain ⟨rfl, rfl⟩ := Prod.mk.inj hx_0
  exact RET _ _ (ret2 F rfl rfl rfl ⟨_, rfl, g1_, rfl, H.px3.px2.px1.px0.f1.fx2⟩)
 rw [if_neg c17] at h
 rw [decide_eq_false c17] at F
 refine wp_cond_false (F.ev rfl) ?_
 refine rg ?_
 refine qw F (r_eq (F.t 9 rfl) (F.k (.int .i64 7))) fun a F => ?_
 refine as_ F rfl fun a F => ?_
 refine rgend ?_
 by_cases c20 : a2.What = 7
 ·rw [if_pos c20] at h
  rw [decide_eq_true c20] at F
  refine wp_cond_true (F.ev rfl) ?_
  refine rg ?_
  refine mv F rfl fun a F => ?_
  refine qw F (r_fa (off := 5) (F.t 5 rfl) fa35_5) fun a F => ?_
  refine qw F (r_ld (F.t 34 rfl) (cel_cell (o := 5) (H.cell 2 rfl) rfl) one33) fun a F => ?_
  refine qw F (r_fa (off := 4) (F.t 5 rfl) fa35_4) fun a F => ?_
  refine qw F (r_ld (F.t 36 rfl) (cel_cell (o := 4) (H.cell 2 rfl) rfl) one3) fun a F => ?_
  obtain ⟨x21, e22, h⟩ := Option.bind_eq_some_iff.1 h
  try dsimp only at h
  refine ls (call F Try.func74 (ref15_Disk_Crash_ok (H.p3.f2.f1.f2) e22) rfl rfl fun v w hR a F => ?_)
  obtain ⟨rfl, H⟩ := hR
  refine rgend ?_
  replace F := F.only [0] (l' := [(0, _)]) rfl
  refine rg ?_
  refine mv F rfl fun a F => ?_
  obtain ⟨x23, e24, h⟩ := Option.bind_eq_some_iff.1 h
  try dsimp only at h
  refine ls (call F Try.func31 (ref18_Open_ok (H) e24) rfl rfl fun v w hR a F => ?_)
  obtain ⟨g25, rfl, H⟩ := hR
  refine as_ F rfl fun a F => ?_
  refine as_ F (v := .int .i64 0) rfl fun a F => ?_
  refine rgend ?_
  refine wp_ret ?_
  try dsimp only at h
  obtain ⟨rfl, hx_0⟩ := Prod.mk.inj (Option.some.inj h)
  obtain ⟨rfl, rfl⟩ := Prod.mk.inj hx_0
  exact RET _ _ (ret2 F rfl rfl rfl ⟨_, rfl, g25, rfl, H.px3.px2.px1.px0.fx3.fx2⟩)
 rw [if_neg c20] at h
 rw [decide_eq_false c20] at F
 refine wp_cond_false (F.ev rfl) ?_
 refine wp_skip ?_
 refine rg ?_
 iterate 2 refine mv F rfl fun a F => ?_
 refine qw F (r_fa (off := 1) (F.t 5 rfl) fa35_1) fun a F => ?_
 refine qw F (r_ld (F.t 43 rfl) (cel_cell (o := 1) (H.cell 2 rfl) rfl) one29) fun a F => ?_
 refine qw F (r_fa (off := 2) (F.t 5 rfl) fa35_2) fun a F => ?_
 refine qw F (r_ld (F.t 45 rfl) (cel_cell (o := 2) (H.cell 2 rfl) rfl) one30) fun a F => ?_
 obtain ⟨⟨x26, x27, x28⟩, e29, h⟩ := Option.bind_eq_some_iff.1 h
 try dsimp only at h
 refine ls (call F Try.func75 (ref18_Store_Begin_ok (H.p1.p1) e29) rfl rfl fun v w hR a F => ?_)
 obtain ⟨rfl, H⟩ := hR
 iterate 2 refine as_ F rfl fun a F => ?_
 refine rgend ?_
 replace F := F.only [7, 6] (l' := [(7, _), (6, _)]) rfl
 refine wp_ret ?_
 try dsimp only at h
 obtain ⟨rfl, hx_0⟩ := Prod.mk.inj (Option.some.inj h)
 obtain ⟨rfl, rfl⟩ := Prod.mk.inj hx_0
 exact RET _ _ (ret2 F rfl rfl rfl ⟨_, rfl, g1_, rfl, H.px3.px2.px1.px0.fx2⟩)
def law18_alike_b0 (a0 : disk_Disk) (a2 : ref15_Disk) : Int → Option (Int ⊕ (Unit ⊕ Bool))
 | x1 => ((ref15_Disk_Sectors_f a2).bind fun x3 => (if x1 < x3 then ((disk_Disk_Read_f a0 x1).bind fun (x6, x7) => ((ref15_Disk_Read_f a2 x1).bind fun (x11, x12) => (if x6 ≠ x11 then some (.inr (.inr false)) else (if x7 ≠ x12 then some (.inr (.inr false)) else some (.inl (IntKind.i64.wrap (x1 + 1))))))) else some (.inr (.inl ()))))
def law18_alike_f (a0 : disk_Disk) (a1 : store_Store) (a2 : ref15_Disk) (a3 : ref18_Store) : Option (Bool) :=
 ((lp (law18_alike_b0 a0 a2) 0).bind fun q => match q with | .inl _ => ((((disk_Disk_Pending_f a0).bind fun x22 => ((ref15_Disk_Pending_f a2).bind fun x24 => (if x22 = x24 then ((store_Store_Has_f a1).bind fun x27 => ((ref18_Store_Has_f a3).bind fun x29 => (if (x27 == x29) = true then ((store_Store_Gen_f a1).bind fun x32 => ((ref18_Store_Gen_f a3).bind fun x34 => (if x32 = x34 then ((store_Store_State_f a1).bind fun x37 => ((ref18_Store_State_f a3).bind fun x42 => (if x37 = x42 then ((store_Store_Entries_f a1).bind fun x48 => ((ref18_Store_Entries_f a3).bind fun x52 => ((ref17_SameRows_f x48 x52).bind fun x56 => some x56))) else some false))) else some false))) else some false))) else some false))) : Option (Bool)).bind fun x20 => some x20) | .inr r => some r)
theorem law18_alike_ok {w0 w : World} {ps : List PF} {fs : List SF} {a0 : disk_Disk} {g0_ : Nat} {a1 : store_Store} {g1_ : Nat} {a2 : ref15_Disk} {g2_ : Nat} {a3 : ref18_Store} {g3_ : Nat} {r0 : Bool} (H : Hp w0 ps (obj_disk_Disk g0_ a0 :: obj_store_Store g1_ g0_ a1 :: obj_ref15_Disk g2_ a2 :: obj_ref18_Store g3_ g2_ a3 :: fs) w) (h : law18_alike_f a0 a1 a2 a3 = some r0) :
  Calls Try.prog 32 [pt g0_, pt g1_, pt g2_, pt g3_].toArray w fun e w' => ∃ v, e = .returned v ∧ v = .bool r0 ∧ Hp w0 ps (obj_disk_Disk g0_ a0 :: obj_store_Store g1_ g0_ a1 :: obj_ref15_Disk g2_ a2 :: obj_ref18_Store g3_ g2_ a3 :: fs) w' := by
 refine enter [pt g0_, pt g1_, pt g2_, pt g3_] 77 Try.func32 fun Q a NP RET NRM F => ?_
 replace NP := np NP
 unfold law18_alike_f at h
 refine rg ?_
 refine as_ F (v := .bool false) rfl fun a F => ?_
 refine rgend ?_
 refine wp_seq ?_
 refine rg ?_
 refine as_ F (v := .int .i64 0) rfl fun a F => ?_
 refine rgend ?_
 obtain ⟨o_1, k_1, h⟩ := Option.bind_eq_some_iff.1 h
 refine cut (fun a w => Sum.inl () = o_1 ∧ Fr 77 [] [(0, pt g0_), (1, pt g1_), (2, pt g2_), (3, pt g3_)] a ∧ Hp w0 ps (obj_store_Store g1_ g0_ a1 :: obj_ref18_Store g3_ g2_ a3 :: obj_ref15_Disk g2_ a2 :: obj_disk_Disk g0_ a0 :: fs) w) (wp_block ?_) ?_
 ·refine wloop (law18_alike_b0 a0 a2) (fun (s : Int) a w => Fr 77 [] [(0, pt g0_), (1, pt g1_), (2, pt g2_), (3, pt g3_), (9, .int .i64 s)] a ∧ Hp w0 ps (obj_store_Store g1_ g0_ a1 :: obj_ref18_Store g3_ g2_ a3 :: obj_ref15_Disk g2_ a2 :: obj_disk_Disk g0_ a0 :: fs) w) k_1 ⟨F.only [0, 1, 2, 3, 9] rfl, H.f2.f3.f3⟩ ?_
  rintro x1 a w q_1 j_1 u_1 ⟨F, H⟩
  unfold law18_alike_b0 at j_1
  try dsimp only at j_1 F H
  refine wp_seq ?_
  refine rg ?_
  iterate 2 refine mv F rfl fun a F => ?_
  obtain ⟨x3, e4, j_1⟩ := Option.bind_eq_some_iff.1 j_1
  try dsimp only at j_1
  refine ls (call F Try.func63 (ref15_Disk_Sectors_ok (H.f3.f2.f2.f3) e4) rfl rfl fun v w hR a F => ?_)
  obtain ⟨rfl, H⟩ := hR
  refine qw F (r_lt (F.t 14 rfl) (F.t 16 rfl)) fun a F => ?_
  refine rgend ?_
  by_cases c5 : x1 < x3
  ·rw [if_pos c5] at j_1
   rw [decide_eq_true c5] at F
   refine wp_cond_true (F.ev rfl) ?_
   refine wp_skip ?_
   refine wp_seq ?_
   refine wp_block ?_
   refine rg ?_
   iterate 2 refine mv F rfl fun a F => ?_
   obtain ⟨⟨x6, x7⟩, e8, j_1⟩ := Option.bind_eq_some_iff.1 j_1
   try dsimp only at j_1
   refine ls (call F Try.func64 (disk_Disk_Read_ok (H.f2.f2.f2.f3) e8) rfl rfl fun v w hR a F => ?_)
   obtain ⟨A9, c10, rfl, H⟩ := hR
   refine mv F rfl fun a F => ?_
   iterate 2 refine qw F (r_ex (F.t 20 rfl) rfl) fun a F => ?_
   iterate 2 refine as_ F rfl fun a F => ?_
   refine rgend ?_
   replace F := F.only [11, 10, 0, 1, 2, 3, 9] (l' := [(11, _), (10, _), (0, _), (1, _), (2, _), (3, _), (9, _)]) rfl
   refine rg ?_
   iterate 2 refine mv F rfl fun a F => ?_
   obtain ⟨⟨x11, x12⟩, e13, j_1⟩ := Option.bind_eq_some_iff.1 j_1
   try dsimp only at j_1
   refine ls (call F Try.func65 (ref15_Disk_Read_ok (H.f4.f4.f3.f3.f4) e13) rfl rfl fun v w hR a F => ?_)
   obtain ⟨A14, c15, rfl, H⟩ := hR
   refine mv F rfl fun a F => ?_
   iterate 2 refine qw F (r_ex (F.t 26 rfl) rfl) fun a F => ?_
   iterate 2 refine as_ F rfl fun a F => ?_
   refine rgend ?_
   replace F := F.only [13, 12, 11, 10, 0, 1, 2, 3, 9] (l' := [(13, _), (12, _), (11, _), (10, _), (0, _), (1, _), (2, _), (3, _), (9, _)]) rfl
   refine rg ?_
   refine mv F rfl fun a F => ?_
   replace H := (H.f5.f5.f5.f4.f4.f5).freeze
   have hb16 := H.bytes 0 rfl
   refine qw F (H.str 0 rfl (F.t 32 rfl) Try.underlying29 Try.underlying5 Try.underlying9) fun a F => ?_
   refine mv F rfl fun a F => ?_
   replace H := (H).freeze
   have hb17 := H.bytes 0 rfl
   refine qw F (H.str 0 rfl (F.t 34 rfl) Try.underlying29 Try.underlying5 Try.underlying9) fun a F => ?_
   refine qw F (r_sne (F.t 33 rfl) (F.t 35 rfl) hb16 hb17) fun a F => ?_
   refine mv F rfl fun a F => ?_
   by_cases c18 : x6 ≠ x11
   ·rw [if_pos c18] at j_1
    rw [decide_eq_true c18] at F
    iterate 3 refine of_ F fun a F => ?_
    refine qw F (r_pickT (F.t 37 rfl) (F.k (.bool true))) fun a F => ?_
    refine rgend ?_
    replace F := F.only [41, 0, 1, 2, 3, 9] (l' := [(41, _), (0, _), (1, _), (2, _), (3, _), (9, _)]) rfl
    refine wp_cond_true (F.ev rfl) ?_
    refine rg ?_
    refine as_ F (v := .bool false) rfl fun a F => ?_
    refine rgend ?_
    replace F := F.only [8] (l' := [(8, _)]) rfl
    refine wp_ret ?_
    try dsimp only at j_1
    obtain rfl := Option.some.inj j_1
    obtain rfl := u_1 _ rfl
    try dsimp only at h
    obtain rfl := Option.some.inj h
    exact RET _ _ (ret1 F rfl rfl ⟨_, rfl, rfl, H.px1.px0.f3.f1.f3.f3⟩)
   rw [if_neg c18] at j_1
   rw [decide_eq_false c18] at F
   iterate 2 refine mv F rfl fun a F => ?_
   refine qw F (r_ne (F.t 38 rfl) (F.t 39 rfl)) fun a F => ?_
   refine qw F (r_pickF (F.t 37 rfl) (F.t 40 rfl)) fun a F => ?_
   refine rgend ?_
   replace F := F.only [41, 0, 1, 2, 3, 9] (l' := [(41, _), (0, _), (1, _), (2, _), (3, _), (9, _)]) rfl
   by_cases c19 : x7 ≠ x12
   ·rw [if_pos c19] at j_1
    rw [decide_eq_true c19] at F
    refine wp_cond_true (F.ev rfl) ?_
    refine rg ?_
    refine as_ F (v := .bool false) rfl fun a F => ?_
    refine rgend ?_
    replace F := F.only [8] (l' := [(8, _)]) rfl
    refine wp_ret ?_
    try dsimp only at j_1
    obtain rfl := Option.some.inj j_1
    obtain rfl := u_1 _ rfl
    try dsimp only at h
    obtain rfl := Option.some.inj h
    exact RET _ _ (ret1 F rfl rfl ⟨_, rfl, rfl, H.px1.px0.f3.f1.f3.f3⟩)
   rw [if_neg c19] at j_1
   rw [decide_eq_false c19] at F
   refine wp_cond_false (F.ev rfl) ?_
   refine wp_skip ?_
   refine wp_region_lit ?_
   refine mv F rfl fun a F => ?_
   refine qw F (r_add (F.t 18 rfl) (F.k (.int .i64 1))) fun a F => ?_
   refine as_ F rfl fun a F => ?_
   refine wpList_nil ?_
   replace F := F.only [9, 0, 1, 2, 3] (l' := [(9, _), (0, _), (1, _), (2, _), (3, _)]) rfl
   try dsimp only at j_1
   obtain rfl := Option.some.inj j_1
   exact ⟨_, rfl, F.only [0, 1, 2, 3, 9] rfl, H.px1.px0.f1.f1.f3.f3⟩
  rw [if_neg c5] at j_1
  rw [decide_eq_false c5] at F
  refine wp_cond_false (F.ev rfl) ?_
  refine wp_exit ?_
  try dsimp only at j_1
  obtain rfl := Option.some.inj j_1
  obtain rfl := u_1 _ rfl
  repeat (with_reducible refine exT ?_)
  with_reducible refine exB ?_
  exact ⟨rfl, F.only [0, 1, 2, 3] rfl, H.f3.f1.f3.f3⟩
 rintro a w ⟨rfl, F, H⟩
 try dsimp only at h F H
 refine wp_seq ?_
 obtain ⟨o_20, k_20, h⟩ := Option.bind_eq_some_iff.1 h
 refine cut (fun a w => ∃ (x20 : Bool), x20 = o_20 ∧ Fr 77 [] [(8, .bool x20)] a ∧ Hp w0 ps (obj_ref15_Disk g2_ a2 :: obj_store_Store g1_ g0_ a1 :: obj_disk_Disk g0_ a0 :: obj_ref18_Store g3_ g2_ a3 :: fs) w) ?_ ?_
 ·skip
  replace H := H.drew
  have HS := H.fx3.fx2.fx1.fx0
  refine dr (fun w => Hp w0 ps fs w) _ (by kernel_rfl) ?_ (n := 36)
  refine dk 0 F rfl NP HS (fun w S => (r_mv (F.t 0 rfl))) fun a F => ?_
  refine dk 2 F rfl NP HS (fun w S => (r_mv (F.t 2 rfl))) fun a F => ?_
  obtain ⟨x22, e23, k_20⟩ := Option.bind_eq_some_iff.1 k_20
  try dsimp only at k_20
  refine d1 1 rfl (by kernel_rfl) (call F Try.func34 (disk_Disk_Pending_ok (H.f2.f2.f2.f3) e23) rfl rfl fun v w hR a F => ?_)
  obtain ⟨rfl, H⟩ := hR
  have HS := H.fx3.fx2.fx1.fx0
  refine kg _ HS (fun w S => S) ?_
  obtain ⟨x24, e25, k_20⟩ := Option.bind_eq_some_iff.1 k_20
  try dsimp only at k_20
  refine d1 3 rfl (by kernel_rfl) (call F Try.func66 (ref15_Disk_Pending_ok (H.f2.f2.f2.f3) e25) rfl rfl fun v w hR a F => ?_)
  obtain ⟨rfl, H⟩ := hR
  have HS := H.fx3.fx2.fx1.fx0
  refine kg _ HS (fun w S => S) ?_
  refine dk 4 F rfl NP HS (fun w S => (r_eq (F.t 43 rfl) (F.t 45 rfl))) fun a F => ?_
  refine dk 5 F rfl NP HS (fun w S => (r_mv (F.t 46 rfl))) fun a F => ?_
  by_cases c26 : x22 = x24
  ·rw [if_pos c26] at k_20
   rw [decide_eq_true c26] at F
   refine dk 6 F rfl NP HS (fun w S => (r_mv (F.t 1 rfl))) fun a F => ?_
   refine dk 8 F rfl NP HS (fun w S => (r_mv (F.t 3 rfl))) fun a F => ?_
   obtain ⟨x27, e28, k_20⟩ := Option.bind_eq_some_iff.1 k_20
   try dsimp only at k_20
   refine d1 7 rfl (by kernel_rfl) (call F Try.func16 (store_Store_Has_ok (H.f3.f2.f2.f3) e28) rfl rfl fun v w hR a F => ?_)
   obtain ⟨rfl, H⟩ := hR
   have HS := H.fx3.fx2.fx1.fx0
   refine kg _ HS (fun w S => S) ?_
   obtain ⟨x29, e30, k_20⟩ := Option.bind_eq_some_iff.1 k_20
   try dsimp only at k_20
   refine d1 9 rfl (by kernel_rfl) (call F Try.func67 (ref18_Store_Has_ok (H.f2.f2.f2.f3) e30) rfl rfl fun v w hR a F => ?_)
   obtain ⟨rfl, H⟩ := hR
   have HS := H.fx3.fx2.fx1.fx0
   refine kg _ HS (fun w S => S) ?_
   refine dk 10 F rfl NP HS (fun w S => (r_beq (F.t 49 rfl) (F.t 51 rfl) Try.underlying4)) fun a F => ?_
   refine dk 11 F rfl NP HS (fun w S => (r_pickT (F.t 47 rfl) (F.t 52 rfl))) fun a F => ?_
   refine dk 12 F rfl NP HS (fun w S => (r_mv (F.t 53 rfl))) fun a F => ?_
   by_cases c31 : (x27 == x29) = true
   ·rw [if_pos c31] at k_20
    rw [c31] at F
    refine dk 13 F rfl NP HS (fun w S => (r_mv (F.t 1 rfl))) fun a F => ?_
    refine dk 15 F rfl NP HS (fun w S => (r_mv (F.t 3 rfl))) fun a F => ?_
    obtain ⟨x32, e33, k_20⟩ := Option.bind_eq_some_iff.1 k_20
    try dsimp only at k_20
    refine d1 14 rfl (by kernel_rfl) (call F Try.func20 (store_Store_Gen_ok (H.f3.f3.f2.f3) e33) rfl rfl fun v w hR a F => ?_)
    obtain ⟨rfl, H⟩ := hR
    have HS := H.fx3.fx2.fx1.fx0
    refine kg _ HS (fun w S => S) ?_
    obtain ⟨x34, e35, k_20⟩ := Option.bind_eq_some_iff.1 k_20
    try dsimp only at k_20
    refine d1 16 rfl (by kernel_rfl) (call F Try.func68 (ref18_Store_Gen_ok (H.f3.f3.f2.f3) e35) rfl rfl fun v w hR a F => ?_)
    obtain ⟨rfl, H⟩ := hR
    have HS := H.fx3.fx2.fx1.fx0
    refine kg _ HS (fun w S => S) ?_
    refine dk 17 F rfl NP HS (fun w S => (r_eq (F.t 56 rfl) (F.t 58 rfl))) fun a F => ?_
    refine dk 18 F rfl NP HS (fun w S => (r_pickT (F.t 54 rfl) (F.t 59 rfl))) fun a F => ?_
    refine dk 19 F rfl NP HS (fun w S => (r_mv (F.t 60 rfl))) fun a F => ?_
    by_cases c36 : x32 = x34
    ·rw [if_pos c36] at k_20
     rw [decide_eq_true c36] at F
     refine dk 20 F rfl NP HS (fun w S => (r_mv (F.t 1 rfl))) fun a F => ?_
     refine dk 23 F rfl NP HS (fun w S => (r_mv (F.t 3 rfl))) fun a F => ?_
     obtain ⟨x37, e38, k_20⟩ := Option.bind_eq_some_iff.1 k_20
     try dsimp only at k_20
     refine d1 21 rfl (by kernel_rfl) (call F Try.func17 (store_Store_State_ok (H.f3.f3.f2.f3) e38) rfl rfl fun v w hR a F => ?_)
     obtain ⟨A39, c40, rfl, H⟩ := hR
     have HS := H.fx4.fx3.fx2.fx1.fx0
     refine kg _ HS (fun w S => S) ?_
     replace H := (H).freeze
     have hb41 := H.bytes 0 rfl
     have HS := H.fx3.fx2.fx1.fx0
     refine dmoreH HS (fun w S => S.px0) ?_
     refine dk 22 F rfl NP HS (fun w S => (S.str 0 rfl (F.t 63 rfl) Try.underlying29 Try.underlying5 Try.underlying9)) fun a F => ?_
     obtain ⟨x42, e43, k_20⟩ := Option.bind_eq_some_iff.1 k_20
     try dsimp only at k_20
     refine d1 24 rfl (by kernel_rfl) (call F Try.func69 (ref18_Store_State_ok (H.f3.f3.f2.f3) e43) rfl rfl fun v w hR a F => ?_)
     obtain ⟨A44, c45, rfl, H⟩ := hR
     have HS := H.fx4.fx3.fx2.fx1.fx0
     refine kg _ HS (fun w S => S) ?_
     replace H := (H).freeze
     have hb46 := H.bytes 0 rfl
     have HS := H.fx3.fx2.fx1.fx0
     refine dmoreH HS (fun w S => S.px0) ?_
     refine dk 25 F rfl NP HS (fun w S => (S.str 0 rfl (F.t 66 rfl) Try.underlying29 Try.underlying5 Try.underlying9)) fun a F => ?_
     refine dk 26 F rfl NP HS (fun w S => (r_seq (F.t 64 rfl) (F.t 67 rfl) hb41 hb46)) fun a F => ?_
     refine dk 27 F rfl NP HS (fun w S => (r_pickT (F.t 61 rfl) (F.t 68 rfl))) fun a F => ?_
     refine dk 28 F rfl NP HS (fun w S => (r_mv (F.t 69 rfl))) fun a F => ?_
     by_cases c47 : x37 = x42
     ·rw [if_pos c47] at k_20
      rw [decide_eq_true c47] at F
      refine dk 29 F rfl NP HS (fun w S => (r_mv (F.t 1 rfl))) fun a F => ?_
      refine dk 31 F rfl NP HS (fun w S => (r_mv (F.t 3 rfl))) fun a F => ?_
      obtain ⟨x48, e49, k_20⟩ := Option.bind_eq_some_iff.1 k_20
      try dsimp only at k_20
      refine d1 30 rfl (by kernel_rfl) (call F Try.func15 (store_Store_Entries_ok (H.f3.f3.f2.f3) e49) rfl rfl fun v w hR a F => ?_)
      obtain ⟨A50, c51, rfl, H⟩ := hR
      have HS := H.fx4.fx3.fx2.fx1.fx0
      refine kg _ HS (fun w S => S) ?_
      obtain ⟨x52, e53, k_20⟩ := Option.bind_eq_some_iff.1 k_20
      try dsimp only at k_20
      refine d1 32 rfl (by kernel_rfl) (call F Try.func70 (ref18_Store_Entries_ok (H.f4.f4.f3.f3.f4) e53) rfl rfl fun v w hR a F => ?_)
      obtain ⟨A54, c55, rfl, H⟩ := hR
      have HS := H.fx5.fx4.fx3.fx2.fx1.fx0
      refine kg _ HS (fun w S => S) ?_
      replace H := (H.f5.f5.f5.f4.f4.f5).freeze
      replace H := (H).freeze
      obtain ⟨x56, e57, k_20⟩ := Option.bind_eq_some_iff.1 k_20
      try dsimp only at k_20
      refine d1 33 rfl (by kernel_rfl) (call F Try.func19 (ref17_SameRows_ok (H.p0.p2) e57) rfl rfl fun v w hR a F => ?_)
      obtain ⟨rfl, H⟩ := hR
      have HS := H.fx3.fx2.fx1.fx0
      refine kg _ HS (fun w S => S.px1.px0) ?_
      refine dk 34 F rfl NP HS (fun w S => (r_pickT (F.t 70 rfl) (F.t 75 rfl))) fun a F => ?_
      refine dk 35 F rfl NP HS (fun w S => (r_as (F.t 76 rfl))) fun a F => ?_
      refine ddone (by kernel_rfl) ?_
      replace F := F.only [8] (l' := [(8, _)]) rfl
      try dsimp only at k_20
      obtain rfl := Option.some.inj k_20
      exact ⟨_, rfl, F.only [8] rfl, H.px3.px2.px1.px0.f3.f2.f3⟩
     rw [if_neg c47] at k_20
     rw [decide_eq_false c47] at F
     refine df 29 F rfl NP HS fun a F => ?_
     refine df 30 F rfl NP HS fun a F => ?_
     refine df 31 F rfl NP HS fun a F => ?_
     refine df 32 F rfl NP HS fun a F => ?_
     refine df 33 F rfl NP HS fun a F => ?_
     refine dk 34 F rfl NP HS (fun w S => (r_pickF (F.t 70 rfl) (F.k (.bool false)))) fun a F => ?_
     refine dk 35 F rfl NP HS (fun w S => (r_as (F.t 76 rfl))) fun a F => ?_
     refine ddone (by kernel_rfl) ?_
     replace F := F.only [8] (l' := [(8, _)]) rfl
     try dsimp only at k_20
     obtain rfl := Option.some.inj k_20
     exact ⟨_, rfl, F.only [8] rfl, H.px1.px0.f3.f2.f3⟩
    rw [if_neg c36] at k_20
    rw [decide_eq_false c36] at F
    refine df 20 F rfl NP HS fun a F => ?_
    refine df 21 F rfl NP HS fun a F => ?_
    refine df 22 F rfl NP HS fun a F => ?_
    refine df 23 F rfl NP HS fun a F => ?_
    refine df 24 F rfl NP HS fun a F => ?_
    refine df 25 F rfl NP HS fun a F => ?_
    refine df 26 F rfl NP HS fun a F => ?_
    refine dk 27 F rfl NP HS (fun w S => (r_pickF (F.t 61 rfl) (F.k (.bool false)))) fun a F => ?_
    refine dk 28 F rfl NP HS (fun w S => (r_mv (F.t 69 rfl))) fun a F => ?_
    refine df 29 F rfl NP HS fun a F => ?_
    refine df 30 F rfl NP HS fun a F => ?_
    refine df 31 F rfl NP HS fun a F => ?_
    refine df 32 F rfl NP HS fun a F => ?_
    refine df 33 F rfl NP HS fun a F => ?_
    refine dk 34 F rfl NP HS (fun w S => (r_pickF (F.t 70 rfl) (F.k (.bool false)))) fun a F => ?_
    refine dk 35 F rfl NP HS (fun w S => (r_as (F.t 76 rfl))) fun a F => ?_
    refine ddone (by kernel_rfl) ?_
    replace F := F.only [8] (l' := [(8, _)]) rfl
    try dsimp only at k_20
    obtain rfl := Option.some.inj k_20
    exact ⟨_, rfl, F.only [8] rfl, H.f3.f2.f3⟩
   rw [if_neg c31] at k_20
   rw [Bool.eq_false_iff.2 c31] at F
   refine df 13 F rfl NP HS fun a F => ?_
   refine df 14 F rfl NP HS fun a F => ?_
   refine df 15 F rfl NP HS fun a F => ?_
   refine df 16 F rfl NP HS fun a F => ?_
   refine df 17 F rfl NP HS fun a F => ?_
   refine dk 18 F rfl NP HS (fun w S => (r_pickF (F.t 54 rfl) (F.k (.bool false)))) fun a F => ?_
   refine dk 19 F rfl NP HS (fun w S => (r_mv (F.t 60 rfl))) fun a F => ?_
   refine df 20 F rfl NP HS fun a F => ?_
   refine df 21 F rfl NP HS fun a F => ?_
   refine df 22 F rfl NP HS fun a F => ?_
   refine df 23 F rfl NP HS fun a F => ?_
   refine df 24 F rfl NP HS fun a F => ?_
   refine df 25 F rfl NP HS fun a F => ?_
   refine df 26 F rfl NP HS fun a F => ?_
   refine dk 27 F rfl NP HS (fun w S => (r_pickF (F.t 61 rfl) (F.k (.bool false)))) fun a F => ?_
   refine dk 28 F rfl NP HS (fun w S => (r_mv (F.t 69 rfl))) fun a F => ?_
   refine df 29 F rfl NP HS fun a F => ?_
   refine df 30 F rfl NP HS fun a F => ?_
   refine df 31 F rfl NP HS fun a F => ?_
   refine df 32 F rfl NP HS fun a F => ?_
   refine df 33 F rfl NP HS fun a F => ?_
   refine dk 34 F rfl NP HS (fun w S => (r_pickF (F.t 70 rfl) (F.k (.bool false)))) fun a F => ?_
   refine dk 35 F rfl NP HS (fun w S => (r_as (F.t 76 rfl))) fun a F => ?_
   refine ddone (by kernel_rfl) ?_
   replace F := F.only [8] (l' := [(8, _)]) rfl
   try dsimp only at k_20
   obtain rfl := Option.some.inj k_20
   exact ⟨_, rfl, F.only [8] rfl, H.f3.f2.f3⟩
  rw [if_neg c26] at k_20
  rw [decide_eq_false c26] at F
  refine df 6 F rfl NP HS fun a F => ?_
  refine df 7 F rfl NP HS fun a F => ?_
  refine df 8 F rfl NP HS fun a F => ?_
  refine df 9 F rfl NP HS fun a F => ?_
  refine df 10 F rfl NP HS fun a F => ?_
  refine dk 11 F rfl NP HS (fun w S => (r_pickF (F.t 47 rfl) (F.k (.bool false)))) fun a F => ?_
  refine dk 12 F rfl NP HS (fun w S => (r_mv (F.t 53 rfl))) fun a F => ?_
  refine df 13 F rfl NP HS fun a F => ?_
  refine df 14 F rfl NP HS fun a F => ?_
  refine df 15 F rfl NP HS fun a F => ?_
  refine df 16 F rfl NP HS fun a F => ?_
  refine df 17 F rfl NP HS fun a F => ?_
  refine dk 18 F rfl NP HS (fun w S => (r_pickF (F.t 54 rfl) (F.k (.bool false)))) fun a F => ?_
  refine dk 19 F rfl NP HS (fun w S => (r_mv (F.t 60 rfl))) fun a F => ?_
  refine df 20 F rfl NP HS fun a F => ?_
  refine df 21 F rfl NP HS fun a F => ?_
  refine df 22 F rfl NP HS fun a F => ?_
  refine df 23 F rfl NP HS fun a F => ?_
  refine df 24 F rfl NP HS fun a F => ?_
  refine df 25 F rfl NP HS fun a F => ?_
  refine df 26 F rfl NP HS fun a F => ?_
  refine dk 27 F rfl NP HS (fun w S => (r_pickF (F.t 61 rfl) (F.k (.bool false)))) fun a F => ?_
  refine dk 28 F rfl NP HS (fun w S => (r_mv (F.t 69 rfl))) fun a F => ?_
  refine df 29 F rfl NP HS fun a F => ?_
  refine df 30 F rfl NP HS fun a F => ?_
  refine df 31 F rfl NP HS fun a F => ?_
  refine df 32 F rfl NP HS fun a F => ?_
  refine df 33 F rfl NP HS fun a F => ?_
  refine dk 34 F rfl NP HS (fun w S => (r_pickF (F.t 70 rfl) (F.k (.bool false)))) fun a F => ?_
  refine dk 35 F rfl NP HS (fun w S => (r_as (F.t 76 rfl))) fun a F => ?_
  refine ddone (by kernel_rfl) ?_
  replace F := F.only [8] (l' := [(8, _)]) rfl
  try dsimp only at k_20
  obtain rfl := Option.some.inj k_20
  exact ⟨_, rfl, F.only [8] rfl, H.f3.f2.f3.f3⟩
 rintro a w ⟨x20, rfl, F, H⟩
 try dsimp only at h F H
 refine wp_ret ?_
 try dsimp only at h
 obtain rfl := Option.some.inj h
 exact RET _ _ (ret1 F rfl rfl ⟨_, rfl, rfl, H.f3.f1.f2.f3⟩)
end Go.Proofs.Ytpmkpiffbdcflaa
