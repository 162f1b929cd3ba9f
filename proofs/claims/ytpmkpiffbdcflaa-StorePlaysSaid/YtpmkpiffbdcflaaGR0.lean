/- What the functions compute. Printed by wip/gen. -/
import Derived.Test.YtpmkpiffbdcflaaGL
set_option linter.unusedVariables false
set_option linter.unusedSimpArgs false
set_option maxHeartbeats 4000000
set_option maxRecDepth 20000
namespace Go.Proofs.Ytpmkpiffbdcflaa
open Go Go.RowKit
def ref16_Get_b0 (a0 : List Int) : Int → Option (Int ⊕ (Unit ⊕ (api_Sector × Bool)))
 | x214 => (if x214 < (a0.length : Int) then (if 0 ≤ x214 ∧ x214 < (a0.length : Int) then (if (a0.getD (x214 : Int).toNat 0) ≠ 0 then some (.inr (.inr (((⟨0, 0, 0, 0, []⟩ : api_Sector), false)))) else some (.inl (IntKind.i64.wrap (x214 + 1)))) else none) else some (.inr (.inl ())))
def ref16_Get_f (a0 : List Int) : Option (api_Sector × Bool) :=
 (if (a0.length : Int) ≠ 64 then some (((⟨0, 0, 0, 0, []⟩ : api_Sector), false)) else (if 0 ≤ (0 : Int) ∧ (0 : Int) < (a0.length : Int) then (if (a0.getD (0 : Int).toNat 0) ≠ 0 then some (((⟨0, 0, 0, 0, []⟩ : api_Sector), false)) else (if 0 ≤ (13 : Int) ∧ (13 : Int) < (a0.length : Int) then (if (IntKind.i64.wrap (a0.getD (13 : Int).toNat 0)) > 50 then some (((⟨0, 0, 0, 0, []⟩ : api_Sector), false)) else (((if 0 ≤ (0 : Int) ∧ (0 : Int) ≤ (8 : Int) ∧ (8 : Int) ≤ (a0.length : Int) then (if 0 ≤ (8 : Int) ∧ (8 : Int) ≤ (10 : Int) ∧ (10 : Int) ≤ (a0.length : Int) then (if 0 ≤ (10 : Int) ∧ (10 : Int) < (a0.length : Int) then (if 0 ≤ (11 : Int) ∧ (11 : Int) ≤ (13 : Int) ∧ (13 : Int) ≤ (a0.length : Int) then (if 0 ≤ (14 : Int) ∧ (14 : Int) ≤ IntKind.i64.wrap (14 + (IntKind.i64.wrap (a0.getD (13 : Int).toNat 0))) ∧ IntKind.i64.wrap (14 + (IntKind.i64.wrap (a0.getD (13 : Int).toNat 0))) ≤ (a0.length : Int) then ((ref16_Read_f (((a0.take ((8 : Int)).toNat).drop ((0 : Int)).toNat))).bind fun x40 => ((ref16_Read_f (((a0.take ((10 : Int)).toNat).drop ((8 : Int)).toNat))).bind fun x42 => ((ref16_Read_f (((a0.take ((13 : Int)).toNat).drop ((11 : Int)).toNat))).bind fun x44 => (if (0 + (((a0.take (IntKind.i64.wrap (14 + (IntKind.i64.wrap (a0.getD (13 : Int).toNat 0)))).toNat).drop ((14 : Int)).toNat)).length) * 1 ≤ 140737488355328 then some (x40, x42, x44, ((a0.take (IntKind.i64.wrap (14 + (IntKind.i64.wrap (a0.getD (13 : Int).toNat 0)))).toNat).drop ((14 : Int)).toNat)) else none)))) else none) else none) else none) else none) else none) : Option (Int × Int × Int × (List Int))).bind fun (x16, x17, x18, x19) => ((lp (ref16_Get_b0 a0) (IntKind.i64.wrap (14 + (IntKind.i64.wrap (a0.getD (13 : Int).toNat 0))))).bind fun q => match q with | .inl _ => ((ref16_Right_f ((⟨x16, x17, IntKind.i64.wrap (a0.getD (10 : Int).toNat 0), x18, x19⟩ : api_Sector))).bind fun x223 => (if x223 = true then some (((⟨x16, x17, IntKind.i64.wrap (a0.getD (10 : Int).toNat 0), x18, x19⟩ : api_Sector), true)) else some (((⟨0, 0, 0, 0, []⟩ : api_Sector), false)))) | .inr r => some r))) else none)) else none))
theorem ref16_Get_ok {w0 w : World} {ps : List PF} {fs : List SF} {a0 : List Int} {A0_ : Option Addr} {c0_ : Nat} {r0 : api_Sector} {r1 : Bool} (H : Hp w0 (rd kByte A0_ c0_ a0 :: ps) fs w) (h : ref16_Get_f a0 = some (r0, r1)) :
  Calls Try.prog 95 [.slice A0_ a0.length c0_].toArray w fun e w' => ∃ v, e = .returned v ∧ ∃ (A0_4 : Option Addr) (c0_4 : Nat), v = .tuple #[.agg #[.int .i64 r0.Gen, .int .i64 r0.Place, .int .i64 r0.Parts, .int .i64 r0.Kept, .slice A0_4 r0.Body.length c0_4], .bool r1] ∧ Hp w0 (rd kByte A0_4 c0_4 r0.Body :: ps) fs w' := by
 refine enter [.slice A0_ a0.length c0_] 63 Try.func95 fun Q a NP RET NRM F => ?_
 replace NP := np NP
 unfold ref16_Get_f at h
 refine rg ?_
 refine ls (lal F H ti53 (cs := [.int .i64 0, .int .i64 0, .int .i64 0, .int .i64 0, .slice none 0 0]) rfl fun g1 w a H F => ?_)
 refine as_ F (v := .bool false) rfl fun a F => ?_
 refine rgend ?_
 refine wp_seq ?_
 refine rg ?_
 refine mv F rfl fun a F => ?_
 refine qw F (r_len (F.t 7 rfl) Try.underlying29) fun a F => ?_
 refine qw F (r_ne (F.t 8 rfl) (F.k (.int .i64 64))) fun a F => ?_
 refine mv F rfl fun a F => ?_
 by_cases c2 : (a0.length : Int) ≠ 64
 ·rw [if_pos c2] at h
  rw [decide_eq_true c2] at F
  iterate 4 refine of_ F fun a F => ?_
  refine qw F (r_pickT (F.t 10 rfl) (F.k (.bool true))) fun a F => ?_
  refine rgend ?_
  replace F := F.only [15, 2, 0] (l' := [(15, _), (2, _), (0, _)]) rfl
  refine wp_cond_true (F.ev rfl) ?_
  refine rg ?_
  refine ls (lbd F (vs := []) (cs := [.int .i64 0, .int .i64 0, .int .i64 0, .int .i64 0, .slice none 0 0]) rfl (fun w => by kernel_rfl) fun a F => ?_)
  refine stF F [.int .i64 0, .int .i64 0, .int .i64 0, .int .i64 0, .slice none 0 0] H rfl rfl sz53 fun w a H F => ?_
  refine as_ F (v := .bool false) rfl fun a F => ?_
  refine rgend ?_
  refine wp_ret ?_
  replace H := H.nilRd kByte
  try dsimp only at h
  obtain ⟨rfl, rfl⟩ := Prod.mk.inj (Option.some.inj h)
  exact RET _ _ (retC2 F rfl rfl rfl (ldvA (cel_range (o := 0) (n := 5) (vs := [.int .i64 0, .int .i64 0, .int .i64 0, .int .i64 0, .slice none 0 0]) (H.cell 0 rfl) rfl) agg53 rfl) ⟨_, rfl, none, 0, rfl, H.px1.fx0⟩)
 rw [if_neg c2] at h
 rw [decide_eq_false c2] at F
 refine mv F rfl fun a F => ?_
 obtain ⟨c3, h⟩ := guardO h
 obtain ⟨g4, o5, s6, hr, H⟩ := H.ix 0 0 rfl (F.t 11 rfl) (F.k (.int .i64 0)) Try.underlying29 sz5 (by decide) c3.1 c3.2
 obtain ⟨rfl, hr7⟩ := H.says_byte 1 rfl
 refine qw F (hr _ _ _ _ _ _) fun a F => ?_
 refine qw F (r_ld (F.t 12 rfl) (range_cell (j := 0) (H.range 0 rfl) rfl) one5) fun a F => ?_
 refine qw F (r_ne (F.t 13 rfl) (F.k (.int .u8 0))) fun a F => ?_
 refine qw F (r_pickF (F.t 10 rfl) (F.t 14 rfl)) fun a F => ?_
 refine rgend ?_
 replace F := F.only [15, 2, 0] (l' := [(15, _), (2, _), (0, _)]) rfl
 by_cases c8 : (a0.getD (0 : Int).toNat 0) ≠ 0
 ·rw [if_pos c8] at h
  rw [decide_eq_true c8] at F
  refine wp_cond_true (F.ev rfl) ?_
  refine rg ?_
  refine ls (lbd F (vs := []) (cs := [.int .i64 0, .int .i64 0, .int .i64 0, .int .i64 0, .slice none 0 0]) rfl (fun w => by kernel_rfl) fun a F => ?_)
  refine stF F [.int .i64 0, .int .i64 0, .int .i64 0, .int .i64 0, .slice none 0 0] H rfl rfl sz53 fun w a H F => ?_
  refine as_ F (v := .bool false) rfl fun a F => ?_
  refine rgend ?_
  refine wp_ret ?_
  replace H := H.nilRd kByte
  try dsimp only at h
  obtain ⟨rfl, rfl⟩ := Prod.mk.inj (Option.some.inj h)
  exact RET _ _ (retC2 F rfl rfl rfl (ldvA (cel_range (o := 0) (n := 5) (vs := [.int .i64 0, .int .i64 0, .int .i64 0, .int .i64 0, .slice none 0 0]) (H.cell 0 rfl) rfl) agg53 rfl) ⟨_, rfl, none, 0, rfl, H.px3.px2.px1.fx0⟩)
 rw [if_neg c8] at h
 rw [decide_eq_false c8] at F
 refine wp_cond_false (F.ev rfl) ?_
 refine wp_skip ?_
 refine rg ?_
 refine mv F rfl fun a F => ?_
 obtain ⟨c9, h⟩ := guardO h
 obtain ⟨g10, o11, s12, hr, H⟩ := H.ix 0 2 rfl (F.t 17 rfl) (F.k (.int .i64 13)) Try.underlying29 sz5 (by decide) c9.1 c9.2
 obtain ⟨rfl, hr13⟩ := H.says_byte 1 rfl
 refine qw F (hr _ _ _ _ _ _) fun a F => ?_
 refine qw F (r_ld (F.t 18 rfl) (range_cell (j := 0) (H.range 0 rfl) rfl) one5) fun a F => ?_
 refine qw F (r_ci (F.t 19 rfl) Try.underlying3 Try.underlying5) fun a F => ?_
 refine as_ F rfl fun a F => ?_
 refine rgend ?_
 replace F := F.only [4, 2, 0] (l' := [(4, _), (2, _), (0, _)]) rfl
 refine wp_seq ?_
 refine rg ?_
 refine mv F rfl fun a F => ?_
 refine qw F (r_gt (F.t 21 rfl) (F.k (.int .i64 50))) fun a F => ?_
 refine rgend ?_
 by_cases c14 : (IntKind.i64.wrap (a0.getD (13 : Int).toNat 0)) > 50
 ·rw [if_pos c14] at h
  rw [decide_eq_true c14] at F
  refine wp_cond_true (F.ev rfl) ?_
  refine rg ?_
  refine ls (lbd F (vs := []) (cs := [.int .i64 0, .int .i64 0, .int .i64 0, .int .i64 0, .slice none 0 0]) rfl (fun w => by kernel_rfl) fun a F => ?_)
  refine stF F [.int .i64 0, .int .i64 0, .int .i64 0, .int .i64 0, .slice none 0 0] H rfl rfl sz53 fun w a H F => ?_
  refine as_ F (v := .bool false) rfl fun a F => ?_
  refine rgend ?_
  replace F := F.only [3, 2] (l' := [(3, _), (2, _)]) rfl
  refine wp_ret ?_
  replace H := H.nilRd kByte
  try dsimp only at h
  obtain ⟨rfl, rfl⟩ := Prod.mk.inj (Option.some.inj h)
  exact RET _ _ (retC2 F rfl rfl rfl (ldvA (cel_range (o := 0) (n := 5) (vs := [.int .i64 0, .int .i64 0, .int .i64 0, .int .i64 0, .slice none 0 0]) (H.cell 0 rfl) rfl) agg53 rfl) ⟨_, rfl, none, 0, rfl, H.px5.px4.px3.px2.px1.fx0⟩)
 rw [if_neg c14] at h
 rw [decide_eq_false c14] at F
 refine wp_cond_false (F.ev rfl) ?_
 refine wp_skip ?_
 refine wp_seq ?_
 obtain ⟨o_21, k_21, h⟩ := Option.bind_eq_some_iff.1 h
 refine cut (fun a w => ∃ (x16 : Int) (x17 : Int) (x18 : Int) (x19 : List Int), (x16, x17, x18, x19) = o_21 ∧ ∃ (g15 : Nat) (A20 : Option Addr) (c21 : Nat), Fr 63 [] [(0, .slice A0_ a0.length c0_), (2, pt g1), (4, .int .i64 (IntKind.i64.wrap (a0.getD (13 : Int).toNat 0))), (5, pt g15)] a ∧ Hp w0 (rd kByte A0_ c0_ a0 :: ps) (own kByte 5 A20 c21 x19 :: cel g15 [.int .i64 x16, .int .i64 x17, .int .i64 (IntKind.i64.wrap (a0.getD (10 : Int).toNat 0)), .int .i64 x18, .slice A20 x19.length c21] 53 :: cel g1 [.int .i64 0, .int .i64 0, .int .i64 0, .int .i64 0, .slice none 0 0] 53 :: fs) w) ?_ ?_
 ·skip
  replace H := H.drew
  have HS := H
  refine dr (fun w => Hp w0 (celz g10 o11 [.int .u8 ((a0.getD (13 : Int).toNat 0))] :: says kByte [.int .u8 ((a0.getD (13 : Int).toNat 0))] ((a0.getD (13 : Int).toNat 0)) :: celz g4 o5 [.int .u8 ((a0.getD (0 : Int).toNat 0))] :: says kByte [.int .u8 ((a0.getD (0 : Int).toNat 0))] ((a0.getD (0 : Int).toNat 0)) :: rd kByte A0_ c0_ a0 :: ps) (cel g1 [.int .i64 0, .int .i64 0, .int .i64 0, .int .i64 0, .slice none 0 0] 53 :: fs) w) _ (by kernel_rfl) ?_ (n := 22)
  refine dk 0 F rfl NP HS (fun w S => (r_mv (F.t 0 rfl))) fun a F => ?_
  obtain ⟨c23, k_21⟩ := guardO k_21
  obtain ⟨A24, c25, hr, H⟩ := Hp.sl (kd := kByte) (jl := (0 : Int)) (jh := (8 : Int)) H 4 rfl (F.t 24 rfl) Try.underlying29 sz5 (.inl ⟨rfl, rfl⟩) (.inr ⟨_, _, rfl, (F.k (.int .i64 8))⟩) c23
  have HS := H
  refine dmoreH HS (fun w S => S.px0) ?_
  refine dk 1 F rfl NP HS (fun w S => (hr _ _ _ _ _ _)) fun a F => ?_
  refine dk 3 F rfl NP HS (fun w S => (r_mv (F.t 0 rfl))) fun a F => ?_
  obtain ⟨c26, k_21⟩ := guardO k_21
  obtain ⟨A27, c28, hr, H⟩ := Hp.sl (kd := kByte) (jl := (8 : Int)) (jh := (10 : Int)) H 5 rfl (F.t 27 rfl) Try.underlying29 sz5 (.inr ⟨_, _, rfl, (F.k (.int .i64 8))⟩) (.inr ⟨_, _, rfl, (F.k (.int .i64 10))⟩) c26
  have HS := H
  refine dmoreH HS (fun w S => S.px0) ?_
  refine dk 4 F rfl NP HS (fun w S => (hr _ _ _ _ _ _)) fun a F => ?_
  refine dk 6 F rfl NP HS (fun w S => (r_mv (F.t 0 rfl))) fun a F => ?_
  obtain ⟨c29, k_21⟩ := guardO k_21
  obtain ⟨g30, o31, s32, hr, H⟩ := H.ix 0 6 rfl (F.t 30 rfl) (F.k (.int .i64 10)) Try.underlying29 sz5 (by decide) c29.1 c29.2
  obtain ⟨rfl, hr33⟩ := H.says_byte 1 rfl
  have HS := H
  refine dmoreH HS (fun w S => S.px1.px0) ?_
  refine dk 7 F rfl NP HS (fun w S => (hr _ _ _ _ _ _)) fun a F => ?_
  refine dk 8 F rfl NP HS (fun w S => (r_ld (F.t 31 rfl) (range_cell (j := 0) (S.range 0 rfl) rfl) one5)) fun a F => ?_
  refine dk 9 F rfl NP HS (fun w S => (r_ci (F.t 32 rfl) Try.underlying3 Try.underlying5)) fun a F => ?_
  refine dk 10 F rfl NP HS (fun w S => (r_mv (F.t 0 rfl))) fun a F => ?_
  obtain ⟨c34, k_21⟩ := guardO k_21
  obtain ⟨A35, c36, hr, H⟩ := Hp.sl (kd := kByte) (jl := (11 : Int)) (jh := (13 : Int)) H 8 rfl (F.t 34 rfl) Try.underlying29 sz5 (.inr ⟨_, _, rfl, (F.k (.int .i64 11))⟩) (.inr ⟨_, _, rfl, (F.k (.int .i64 13))⟩) c34
  have HS := H
  refine dmoreH HS (fun w S => S.px0) ?_
  refine dk 11 F rfl NP HS (fun w S => (hr _ _ _ _ _ _)) fun a F => ?_
  refine dk 14 F rfl NP HS (fun w S => (r_mv (F.t 0 rfl))) fun a F => ?_
  refine dk 15 F rfl NP HS (fun w S => (r_mv (F.t 4 rfl))) fun a F => ?_
  refine dk 16 F rfl NP HS (fun w S => (r_add (F.k (.int .i64 14)) (F.t 39 rfl))) fun a F => ?_
  obtain ⟨c37, k_21⟩ := guardO k_21
  obtain ⟨A38, c39, hr, H⟩ := Hp.sl (kd := kByte) (jl := (14 : Int)) (jh := IntKind.i64.wrap (14 + (IntKind.i64.wrap (a0.getD (13 : Int).toNat 0)))) H 9 rfl (F.t 38 rfl) Try.underlying29 sz5 (.inr ⟨_, _, rfl, (F.k (.int .i64 14))⟩) (.inr ⟨_, _, rfl, (F.t 40 rfl)⟩) c37
  have HS := H
  refine dmoreH HS (fun w S => S.px0) ?_
  refine dk 17 F rfl NP HS (fun w S => (hr _ _ _ _ _ _)) fun a F => ?_
  refine d3 2 13 20 rfl rfl rfl (by kernel_rfl) ?_ ?_ ?_
  ·skip
   obtain ⟨x40, e41, k_21⟩ := Option.bind_eq_some_iff.1 k_21
   try dsimp only at k_21
   refine call F Try.func103 (ref16_Read_ok (H.p5) e41) rfl rfl fun v w hR a F => ?_
   obtain ⟨rfl, H⟩ := hR
   have HS := H
   refine kg _ HS (fun w S => S) ?_
   refine d3 5 13 20 rfl rfl rfl (by kernel_rfl) ?_ ?_ ?_
   ·skip
    obtain ⟨x42, e43, k_21⟩ := Option.bind_eq_some_iff.1 k_21
    try dsimp only at k_21
    refine call F Try.func103 (ref16_Read_ok (H.p4) e43) rfl rfl fun v w hR a F => ?_
    obtain ⟨rfl, H⟩ := hR
    have HS := H
    refine kg _ HS (fun w S => S) ?_
    refine d3 12 13 20 rfl rfl rfl (by kernel_rfl) ?_ ?_ ?_
    ·skip
     obtain ⟨x44, e45, k_21⟩ := Option.bind_eq_some_iff.1 k_21
     try dsimp only at k_21
     refine call F Try.func103 (ref16_Read_ok (H.p1) e45) rfl rfl fun v w hR a F => ?_
     obtain ⟨rfl, H⟩ := hR
     have HS := H
     refine kg _ HS (fun w S => S) ?_
     refine d2 13 20 rfl rfl (by kernel_rfl) ?_ ?_
     ·skip
      refine lbs F H (e := 5) (vs := []) (cs := []) rfl (fun w => by kernel_rfl) fun g46 w a H F => ?_
      have HS := H.fx0
      refine kg _ HS (fun w S => S) ?_
      refine d2 18 20 rfl rfl (by kernel_rfl) ?_ ?_
      ·skip
       replace H := Hp.litOwn (kd := kByte) (xs := []) (H) (SayL.nil) (Nat.le_of_ble_eq_true rfl)
       obtain ⟨c47, k_21⟩ := guardO k_21
       obtain ⟨A48, c49, _, hr, H⟩ := Hp.appendRd (kd := kByte) (xs := []) (ys := ((a0.take (IntKind.i64.wrap (14 + (IntKind.i64.wrap (a0.getD (13 : Int).toNat 0)))).toNat).drop ((14 : Int)).toNat)) (H) 0 rfl (F.t 37 rfl) (F.t 41 rfl) Try.underlying29 ti5 rfl (by decide) (by decide) c47
       rw [List.nil_append] at hr H
       refine qv F (hr _ _ _ _ _) fun a F => ?_
       have HS := H.fx0
       refine kg _ HS (fun w S => S) ?_
       refine dk 19 F rfl NP HS (fun w S => (r_bd F (vs := [(0, .int .i64 x40), (1, .int .i64 x42), (2, .int .i64 (IntKind.i64.wrap (a0.getD (10 : Int).toNat 0))), (3, .int .i64 x44), (4, .slice A48 (((a0.take (IntKind.i64.wrap (14 + (IntKind.i64.wrap (a0.getD (13 : Int).toNat 0)))).toNat).drop ((14 : Int)).toNat)).length c49)]) (cs := [.int .i64 x40, .int .i64 x42, .int .i64 (IntKind.i64.wrap (a0.getD (10 : Int).toNat 0)), .int .i64 x44, .slice A48 (((a0.take (IntKind.i64.wrap (14 + (IntKind.i64.wrap (a0.getD (13 : Int).toNat 0)))).toNat).drop ((14 : Int)).toNat)).length c49]) rfl (fun w => by kernel_rfl))) fun a F => ?_
       refine d1 20 rfl (by kernel_rfl) (lal F H ti53 (cs := [.int .i64 0, .int .i64 0, .int .i64 0, .int .i64 0, .slice none 0 0]) rfl fun g50 w a H F => ?_)
       have HS := H.fx1.fx0
       refine kg _ HS (fun w S => S) ?_
       obtain ⟨_, hr, H⟩ := Hp.store (t := 53) (o := 0) (n := 5) (vs := [.int .i64 x40, .int .i64 x42, .int .i64 (IntKind.i64.wrap (a0.getD (10 : Int).toNat 0)), .int .i64 x44, .slice A48 (((a0.take (IntKind.i64.wrap (14 + (IntKind.i64.wrap (a0.getD (13 : Int).toNat 0)))).toNat).drop ((14 : Int)).toNat)).length c49]) (cs' := [.int .i64 x40, .int .i64 x42, .int .i64 (IntKind.i64.wrap (a0.getD (10 : Int).toNat 0)), .int .i64 x44, .slice A48 (((a0.take (IntKind.i64.wrap (14 + (IntKind.i64.wrap (a0.getD (13 : Int).toNat 0)))).toNat).drop ((14 : Int)).toNat)).length c49]) (H) (F.t 5 rfl) (F.t 43 rfl) rfl sz53 rfl (Nat.le_of_ble_eq_true rfl) rfl rfl
       refine d1 21 rfl (by kernel_rfl) (qn F (.inl rfl) (hr _ _ _ _) fun a F => ?_)
       have HS := H.fx1.fx0
       refine kg _ HS (fun w S => S) ?_
       refine ddone (by kernel_rfl) ?_
       replace F := F.only [5, 4, 2, 0] (l' := [(5, _), (4, _), (2, _), (0, _)]) rfl
       try dsimp only at k_21
       obtain rfl := Option.some.inj k_21
       exact ⟨_, _, _, _, rfl, g50, A48, c49, F.only [0, 2, 4, 5] rfl, H.px9.px8.px7.px6.px5.px4.px3.px2.px1.px0.f2.f1.f2⟩
      skip
      refine lal F H ti53 (cs := [.int .i64 0, .int .i64 0, .int .i64 0, .int .i64 0, .slice none 0 0]) rfl fun g51 w a H F => ?_
      have HS := H.fx1.fx0
      refine kg _ HS (fun w S => S) ?_
      replace H := Hp.litOwn (kd := kByte) (xs := []) (H.f2.f1.f2) (SayL.nil) (Nat.le_of_ble_eq_true rfl)
      obtain ⟨c52, k_21⟩ := guardO k_21
      obtain ⟨A53, c54, _, hr, H⟩ := Hp.appendRd (kd := kByte) (xs := []) (ys := ((a0.take (IntKind.i64.wrap (14 + (IntKind.i64.wrap (a0.getD (13 : Int).toNat 0)))).toNat).drop ((14 : Int)).toNat)) (H) 0 rfl (F.t 37 rfl) (F.t 41 rfl) Try.underlying29 ti5 rfl (by decide) (by decide) c52
      rw [List.nil_append] at hr H
      refine d1 18 rfl (by kernel_rfl) (qv F (hr _ _ _ _ _) fun a F => ?_)
      have HS := H.fx1.fx0
      refine kg _ HS (fun w S => S) ?_
      refine dk 19 F rfl NP HS (fun w S => (r_bd F (vs := [(0, .int .i64 x40), (1, .int .i64 x42), (2, .int .i64 (IntKind.i64.wrap (a0.getD (10 : Int).toNat 0))), (3, .int .i64 x44), (4, .slice A53 (((a0.take (IntKind.i64.wrap (14 + (IntKind.i64.wrap (a0.getD (13 : Int).toNat 0)))).toNat).drop ((14 : Int)).toNat)).length c54)]) (cs := [.int .i64 x40, .int .i64 x42, .int .i64 (IntKind.i64.wrap (a0.getD (10 : Int).toNat 0)), .int .i64 x44, .slice A53 (((a0.take (IntKind.i64.wrap (14 + (IntKind.i64.wrap (a0.getD (13 : Int).toNat 0)))).toNat).drop ((14 : Int)).toNat)).length c54]) rfl (fun w => by kernel_rfl))) fun a F => ?_
      obtain ⟨_, hr, H⟩ := Hp.store (t := 53) (o := 0) (n := 5) (vs := [.int .i64 x40, .int .i64 x42, .int .i64 (IntKind.i64.wrap (a0.getD (10 : Int).toNat 0)), .int .i64 x44, .slice A53 (((a0.take (IntKind.i64.wrap (14 + (IntKind.i64.wrap (a0.getD (13 : Int).toNat 0)))).toNat).drop ((14 : Int)).toNat)).length c54]) (cs' := [.int .i64 x40, .int .i64 x42, .int .i64 (IntKind.i64.wrap (a0.getD (10 : Int).toNat 0)), .int .i64 x44, .slice A53 (((a0.take (IntKind.i64.wrap (14 + (IntKind.i64.wrap (a0.getD (13 : Int).toNat 0)))).toNat).drop ((14 : Int)).toNat)).length c54]) (H.f2.f1.f2) (F.t 5 rfl) (F.t 43 rfl) rfl sz53 rfl (Nat.le_of_ble_eq_true rfl) rfl rfl
      refine d1 21 rfl (by kernel_rfl) (qn F (.inl rfl) (hr _ _ _ _) fun a F => ?_)
      have HS := H.fx1.fx0
      refine kg _ HS (fun w S => S) ?_
      refine ddone (by kernel_rfl) ?_
      replace F := F.only [5, 4, 2, 0] (l' := [(5, _), (4, _), (2, _), (0, _)]) rfl
      try dsimp only at k_21
      obtain rfl := Option.some.inj k_21
      exact ⟨_, _, _, _, rfl, g51, A53, c54, F.only [0, 2, 4, 5] rfl, H.px9.px8.px7.px6.px5.px4.px3.px2.px1.px0.f2.f1.f2⟩
     skip
     refine lal F H ti53 (cs := [.int .i64 0, .int .i64 0, .int .i64 0, .int .i64 0, .slice none 0 0]) rfl fun g55 w a H F => ?_
     have HS := H.fx0
     refine kg _ HS (fun w S => S) ?_
     refine d1 13 rfl (by kernel_rfl) (lbs F H (e := 5) (vs := []) (cs := []) rfl (fun w => by kernel_rfl) fun g56 w a H F => ?_)
     have HS := H.fx1.fx0
     refine kg _ HS (fun w S => S) ?_
     replace H := Hp.litOwn (kd := kByte) (xs := []) (H) (SayL.nil) (Nat.le_of_ble_eq_true rfl)
     obtain ⟨c57, k_21⟩ := guardO k_21
     obtain ⟨A58, c59, _, hr, H⟩ := Hp.appendRd (kd := kByte) (xs := []) (ys := ((a0.take (IntKind.i64.wrap (14 + (IntKind.i64.wrap (a0.getD (13 : Int).toNat 0)))).toNat).drop ((14 : Int)).toNat)) (H) 0 rfl (F.t 37 rfl) (F.t 41 rfl) Try.underlying29 ti5 rfl (by decide) (by decide) c57
     rw [List.nil_append] at hr H
     refine d1 18 rfl (by kernel_rfl) (qv F (hr _ _ _ _ _) fun a F => ?_)
     have HS := H.fx1.fx0
     refine kg _ HS (fun w S => S) ?_
     refine dk 19 F rfl NP HS (fun w S => (r_bd F (vs := [(0, .int .i64 x40), (1, .int .i64 x42), (2, .int .i64 (IntKind.i64.wrap (a0.getD (10 : Int).toNat 0))), (3, .int .i64 x44), (4, .slice A58 (((a0.take (IntKind.i64.wrap (14 + (IntKind.i64.wrap (a0.getD (13 : Int).toNat 0)))).toNat).drop ((14 : Int)).toNat)).length c59)]) (cs := [.int .i64 x40, .int .i64 x42, .int .i64 (IntKind.i64.wrap (a0.getD (10 : Int).toNat 0)), .int .i64 x44, .slice A58 (((a0.take (IntKind.i64.wrap (14 + (IntKind.i64.wrap (a0.getD (13 : Int).toNat 0)))).toNat).drop ((14 : Int)).toNat)).length c59]) rfl (fun w => by kernel_rfl))) fun a F => ?_
     obtain ⟨_, hr, H⟩ := Hp.store (t := 53) (o := 0) (n := 5) (vs := [.int .i64 x40, .int .i64 x42, .int .i64 (IntKind.i64.wrap (a0.getD (10 : Int).toNat 0)), .int .i64 x44, .slice A58 (((a0.take (IntKind.i64.wrap (14 + (IntKind.i64.wrap (a0.getD (13 : Int).toNat 0)))).toNat).drop ((14 : Int)).toNat)).length c59]) (cs' := [.int .i64 x40, .int .i64 x42, .int .i64 (IntKind.i64.wrap (a0.getD (10 : Int).toNat 0)), .int .i64 x44, .slice A58 (((a0.take (IntKind.i64.wrap (14 + (IntKind.i64.wrap (a0.getD (13 : Int).toNat 0)))).toNat).drop ((14 : Int)).toNat)).length c59]) (H.f2.f1.f2) (F.t 5 rfl) (F.t 43 rfl) rfl sz53 rfl (Nat.le_of_ble_eq_true rfl) rfl rfl
     refine d1 21 rfl (by kernel_rfl) (qn F (.inl rfl) (hr _ _ _ _) fun a F => ?_)
     have HS := H.fx1.fx0
     refine kg _ HS (fun w S => S) ?_
     refine ddone (by kernel_rfl) ?_
     replace F := F.only [5, 4, 2, 0] (l' := [(5, _), (4, _), (2, _), (0, _)]) rfl
     try dsimp only at k_21
     obtain rfl := Option.some.inj k_21
     exact ⟨_, _, _, _, rfl, g55, A58, c59, F.only [0, 2, 4, 5] rfl, H.px9.px8.px7.px6.px5.px4.px3.px2.px1.px0.f2.f1.f2⟩
    ·skip
     refine lbs F H (e := 5) (vs := []) (cs := []) rfl (fun w => by kernel_rfl) fun g60 w a H F => ?_
     have HS := H.fx0
     refine kg _ HS (fun w S => S) ?_
     refine d2 12 20 rfl rfl (by kernel_rfl) ?_ ?_
     ·skip
      obtain ⟨x61, e62, k_21⟩ := Option.bind_eq_some_iff.1 k_21
      try dsimp only at k_21
      refine call F Try.func103 (ref16_Read_ok (H.p1) e62) rfl rfl fun v w hR a F => ?_
      obtain ⟨rfl, H⟩ := hR
      have HS := H.fx0
      refine kg _ HS (fun w S => S) ?_
      refine d2 18 20 rfl rfl (by kernel_rfl) ?_ ?_
      ·skip
       replace H := Hp.litOwn (kd := kByte) (xs := []) (H) (SayL.nil) (Nat.le_of_ble_eq_true rfl)
       obtain ⟨c63, k_21⟩ := guardO k_21
       obtain ⟨A64, c65, _, hr, H⟩ := Hp.appendRd (kd := kByte) (xs := []) (ys := ((a0.take (IntKind.i64.wrap (14 + (IntKind.i64.wrap (a0.getD (13 : Int).toNat 0)))).toNat).drop ((14 : Int)).toNat)) (H) 0 rfl (F.t 37 rfl) (F.t 41 rfl) Try.underlying29 ti5 rfl (by decide) (by decide) c63
       rw [List.nil_append] at hr H
       refine qv F (hr _ _ _ _ _) fun a F => ?_
       have HS := H.fx0
       refine kg _ HS (fun w S => S) ?_
       refine dk 19 F rfl NP HS (fun w S => (r_bd F (vs := [(0, .int .i64 x40), (1, .int .i64 x42), (2, .int .i64 (IntKind.i64.wrap (a0.getD (10 : Int).toNat 0))), (3, .int .i64 x61), (4, .slice A64 (((a0.take (IntKind.i64.wrap (14 + (IntKind.i64.wrap (a0.getD (13 : Int).toNat 0)))).toNat).drop ((14 : Int)).toNat)).length c65)]) (cs := [.int .i64 x40, .int .i64 x42, .int .i64 (IntKind.i64.wrap (a0.getD (10 : Int).toNat 0)), .int .i64 x61, .slice A64 (((a0.take (IntKind.i64.wrap (14 + (IntKind.i64.wrap (a0.getD (13 : Int).toNat 0)))).toNat).drop ((14 : Int)).toNat)).length c65]) rfl (fun w => by kernel_rfl))) fun a F => ?_
       refine d1 20 rfl (by kernel_rfl) (lal F H ti53 (cs := [.int .i64 0, .int .i64 0, .int .i64 0, .int .i64 0, .slice none 0 0]) rfl fun g66 w a H F => ?_)
       have HS := H.fx1.fx0
       refine kg _ HS (fun w S => S) ?_
       obtain ⟨_, hr, H⟩ := Hp.store (t := 53) (o := 0) (n := 5) (vs := [.int .i64 x40, .int .i64 x42, .int .i64 (IntKind.i64.wrap (a0.getD (10 : Int).toNat 0)), .int .i64 x61, .slice A64 (((a0.take (IntKind.i64.wrap (14 + (IntKind.i64.wrap (a0.getD (13 : Int).toNat 0)))).toNat).drop ((14 : Int)).toNat)).length c65]) (cs' := [.int .i64 x40, .int .i64 x42, .int .i64 (IntKind.i64.wrap (a0.getD (10 : Int).toNat 0)), .int .i64 x61, .slice A64 (((a0.take (IntKind.i64.wrap (14 + (IntKind.i64.wrap (a0.getD (13 : Int).toNat 0)))).toNat).drop ((14 : Int)).toNat)).length c65]) (H) (F.t 5 rfl) (F.t 43 rfl) rfl sz53 rfl (Nat.le_of_ble_eq_true rfl) rfl rfl
       refine d1 21 rfl (by kernel_rfl) (qn F (.inl rfl) (hr _ _ _ _) fun a F => ?_)
       have HS := H.fx1.fx0
       refine kg _ HS (fun w S => S) ?_
       refine ddone (by kernel_rfl) ?_
       replace F := F.only [5, 4, 2, 0] (l' := [(5, _), (4, _), (2, _), (0, _)]) rfl
       try dsimp only at k_21
       obtain rfl := Option.some.inj k_21
       exact ⟨_, _, _, _, rfl, g66, A64, c65, F.only [0, 2, 4, 5] rfl, H.px9.px8.px7.px6.px5.px4.px3.px2.px1.px0.f2.f1.f2⟩
      skip
      refine lal F H ti53 (cs := [.int .i64 0, .int .i64 0, .int .i64 0, .int .i64 0, .slice none 0 0]) rfl fun g67 w a H F => ?_
      have HS := H.fx1.fx0
      refine kg _ HS (fun w S => S) ?_
      replace H := Hp.litOwn (kd := kByte) (xs := []) (H.f2.f1.f2) (SayL.nil) (Nat.le_of_ble_eq_true rfl)
      obtain ⟨c68, k_21⟩ := guardO k_21
      obtain ⟨A69, c70, _, hr, H⟩ := Hp.appendRd (kd := kByte) (xs := []) (ys := ((a0.take (IntKind.i64.wrap (14 + (IntKind.i64.wrap (a0.getD (13 : Int).toNat 0)))).toNat).drop ((14 : Int)).toNat)) (H) 0 rfl (F.t 37 rfl) (F.t 41 rfl) Try.underlying29 ti5 rfl (by decide) (by decide) c68
      rw [List.nil_append] at hr H
      refine d1 18 rfl (by kernel_rfl) (qv F (hr _ _ _ _ _) fun a F => ?_)
      have HS := H.fx1.fx0
      refine kg _ HS (fun w S => S) ?_
      refine dk 19 F rfl NP HS (fun w S => (r_bd F (vs := [(0, .int .i64 x40), (1, .int .i64 x42), (2, .int .i64 (IntKind.i64.wrap (a0.getD (10 : Int).toNat 0))), (3, .int .i64 x61), (4, .slice A69 (((a0.take (IntKind.i64.wrap (14 + (IntKind.i64.wrap (a0.getD (13 : Int).toNat 0)))).toNat).drop ((14 : Int)).toNat)).length c70)]) (cs := [.int .i64 x40, .int .i64 x42, .int .i64 (IntKind.i64.wrap (a0.getD (10 : Int).toNat 0)), .int .i64 x61, .slice A69 (((a0.take (IntKind.i64.wrap (14 + (IntKind.i64.wrap (a0.getD (13 : Int).toNat 0)))).toNat).drop ((14 : Int)).toNat)).length c70]) rfl (fun w => by kernel_rfl))) fun a F => ?_
      obtain ⟨_, hr, H⟩ := Hp.store (t := 53) (o := 0) (n := 5) (vs := [.int .i64 x40, .int .i64 x42, .int .i64 (IntKind.i64.wrap (a0.getD (10 : Int).toNat 0)), .int .i64 x61, .slice A69 (((a0.take (IntKind.i64.wrap (14 + (IntKind.i64.wrap (a0.getD (13 : Int).toNat 0)))).toNat).drop ((14 : Int)).toNat)).length c70]) (cs' := [.int .i64 x40, .int .i64 x42, .int .i64 (IntKind.i64.wrap (a0.getD (10 : Int).toNat 0)), .int .i64 x61, .slice A69 (((a0.take (IntKind.i64.wrap (14 + (IntKind.i64.wrap (a0.getD (13 : Int).toNat 0)))).toNat).drop ((14 : Int)).toNat)).length c70]) (H.f2.f1.f2) (F.t 5 rfl) (F.t 43 rfl) rfl sz53 rfl (Nat.le_of_ble_eq_true rfl) rfl rfl
      refine d1 21 rfl (by kernel_rfl) (qn F (.inl rfl) (hr _ _ _ _) fun a F => ?_)
      have HS := H.fx1.fx0
      refine kg _ HS (fun w S => S) ?_
      refine ddone (by kernel_rfl) ?_
      replace F := F.only [5, 4, 2, 0] (l' := [(5, _), (4, _), (2, _), (0, _)]) rfl
      try dsimp only at k_21
      obtain rfl := Option.some.inj k_21
      exact ⟨_, _, _, _, rfl, g67, A69, c70, F.only [0, 2, 4, 5] rfl, H.px9.px8.px7.px6.px5.px4.px3.px2.px1.px0.f2.f1.f2⟩
     skip
     refine lal F H ti53 (cs := [.int .i64 0, .int .i64 0, .int .i64 0, .int .i64 0, .slice none 0 0]) rfl fun g71 w a H F => ?_
     have HS := H.fx1.fx0
     refine kg _ HS (fun w S => S) ?_
     obtain ⟨x72, e73, k_21⟩ := Option.bind_eq_some_iff.1 k_21
     try dsimp only at k_21
     refine d1 12 rfl (by kernel_rfl) (call F Try.func103 (ref16_Read_ok (H.p1) e73) rfl rfl fun v w hR a F => ?_)
     obtain ⟨rfl, H⟩ := hR
     have HS := H.fx1.fx0
     refine kg _ HS (fun w S => S) ?_
     replace H := Hp.litOwn (kd := kByte) (xs := []) (H.f2.f1.f2) (SayL.nil) (Nat.le_of_ble_eq_true rfl)
     obtain ⟨c74, k_21⟩ := guardO k_21
     obtain ⟨A75, c76, _, hr, H⟩ := Hp.appendRd (kd := kByte) (xs := []) (ys := ((a0.take (IntKind.i64.wrap (14 + (IntKind.i64.wrap (a0.getD (13 : Int).toNat 0)))).toNat).drop ((14 : Int)).toNat)) (H) 0 rfl (F.t 37 rfl) (F.t 41 rfl) Try.underlying29 ti5 rfl (by decide) (by decide) c74
     rw [List.nil_append] at hr H
     refine d1 18 rfl (by kernel_rfl) (qv F (hr _ _ _ _ _) fun a F => ?_)
     have HS := H.fx1.fx0
     refine kg _ HS (fun w S => S) ?_
     refine dk 19 F rfl NP HS (fun w S => (r_bd F (vs := [(0, .int .i64 x40), (1, .int .i64 x42), (2, .int .i64 (IntKind.i64.wrap (a0.getD (10 : Int).toNat 0))), (3, .int .i64 x72), (4, .slice A75 (((a0.take (IntKind.i64.wrap (14 + (IntKind.i64.wrap (a0.getD (13 : Int).toNat 0)))).toNat).drop ((14 : Int)).toNat)).length c76)]) (cs := [.int .i64 x40, .int .i64 x42, .int .i64 (IntKind.i64.wrap (a0.getD (10 : Int).toNat 0)), .int .i64 x72, .slice A75 (((a0.take (IntKind.i64.wrap (14 + (IntKind.i64.wrap (a0.getD (13 : Int).toNat 0)))).toNat).drop ((14 : Int)).toNat)).length c76]) rfl (fun w => by kernel_rfl))) fun a F => ?_
     obtain ⟨_, hr, H⟩ := Hp.store (t := 53) (o := 0) (n := 5) (vs := [.int .i64 x40, .int .i64 x42, .int .i64 (IntKind.i64.wrap (a0.getD (10 : Int).toNat 0)), .int .i64 x72, .slice A75 (((a0.take (IntKind.i64.wrap (14 + (IntKind.i64.wrap (a0.getD (13 : Int).toNat 0)))).toNat).drop ((14 : Int)).toNat)).length c76]) (cs' := [.int .i64 x40, .int .i64 x42, .int .i64 (IntKind.i64.wrap (a0.getD (10 : Int).toNat 0)), .int .i64 x72, .slice A75 (((a0.take (IntKind.i64.wrap (14 + (IntKind.i64.wrap (a0.getD (13 : Int).toNat 0)))).toNat).drop ((14 : Int)).toNat)).length c76]) (H.f2.f1.f2) (F.t 5 rfl) (F.t 43 rfl) rfl sz53 rfl (Nat.le_of_ble_eq_true rfl) rfl rfl
     refine d1 21 rfl (by kernel_rfl) (qn F (.inl rfl) (hr _ _ _ _) fun a F => ?_)
     have HS := H.fx1.fx0
     refine kg _ HS (fun w S => S) ?_
     refine ddone (by kernel_rfl) ?_
     replace F := F.only [5, 4, 2, 0] (l' := [(5, _), (4, _), (2, _), (0, _)]) rfl
     try dsimp only at k_21
     obtain rfl := Option.some.inj k_21
     exact ⟨_, _, _, _, rfl, g71, A75, c76, F.only [0, 2, 4, 5] rfl, H.px9.px8.px7.px6.px5.px4.px3.px2.px1.px0.f2.f1.f2⟩
    skip
    refine lal F H ti53 (cs := [.int .i64 0, .int .i64 0, .int .i64 0, .int .i64 0, .slice none 0 0]) rfl fun g77 w a H F => ?_
    have HS := H.fx0
    refine kg _ HS (fun w S => S) ?_
    refine d2 12 13 rfl rfl (by kernel_rfl) ?_ ?_
    ·skip
     obtain ⟨x78, e79, k_21⟩ := Option.bind_eq_some_iff.1 k_21
     try dsimp only at k_21
     refine call F Try.func103 (ref16_Read_ok (H.p1) e79) rfl rfl fun v w hR a F => ?_
     obtain ⟨rfl, H⟩ := hR
     have HS := H.fx0
     refine kg _ HS (fun w S => S) ?_
     refine d1 13 rfl (by kernel_rfl) (lbs F H (e := 5) (vs := []) (cs := []) rfl (fun w => by kernel_rfl) fun g80 w a H F => ?_)
     have HS := H.fx1.fx0
     refine kg _ HS (fun w S => S) ?_
     replace H := Hp.litOwn (kd := kByte) (xs := []) (H) (SayL.nil) (Nat.le_of_ble_eq_true rfl)
     obtain ⟨c81, k_21⟩ := guardO k_21
     obtain ⟨A82, c83, _, hr, H⟩ := Hp.appendRd (kd := kByte) (xs := []) (ys := ((a0.take (IntKind.i64.wrap (14 + (IntKind.i64.wrap (a0.getD (13 : Int).toNat 0)))).toNat).drop ((14 : Int)).toNat)) (H) 0 rfl (F.t 37 rfl) (F.t 41 rfl) Try.underlying29 ti5 rfl (by decide) (by decide) c81
     rw [List.nil_append] at hr H
     refine d1 18 rfl (by kernel_rfl) (qv F (hr _ _ _ _ _) fun a F => ?_)
     have HS := H.fx1.fx0
     refine kg _ HS (fun w S => S) ?_
     refine dk 19 F rfl NP HS (fun w S => (r_bd F (vs := [(0, .int .i64 x40), (1, .int .i64 x42), (2, .int .i64 (IntKind.i64.wrap (a0.getD (10 : Int).toNat 0))), (3, .int .i64 x78), (4, .slice A82 (((a0.take (IntKind.i64.wrap (14 + (IntKind.i64.wrap (a0.getD (13 : Int).toNat 0)))).toNat).drop ((14 : Int)).toNat)).length c83)]) (cs := [.int .i64 x40, .int .i64 x42, .int .i64 (IntKind.i64.wrap (a0.getD (10 : Int).toNat 0)), .int .i64 x78, .slice A82 (((a0.take (IntKind.i64.wrap (14 + (IntKind.i64.wrap (a0.getD (13 : Int).toNat 0)))).toNat).drop ((14 : Int)).toNat)).length c83]) rfl (fun w => by kernel_rfl))) fun a F => ?_
     obtain ⟨_, hr, H⟩ := Hp.store (t := 53) (o := 0) (n := 5) (vs := [.int .i64 x40, .int .i64 x42, .int .i64 (IntKind.i64.wrap (a0.getD (10 : Int).toNat 0)), .int .i64 x78, .slice A82 (((a0.take (IntKind.i64.wrap (14 + (IntKind.i64.wrap (a0.getD (13 : Int).toNat 0)))).toNat).drop ((14 : Int)).toNat)).length c83]) (cs' := [.int .i64 x40, .int .i64 x42, .int .i64 (IntKind.i64.wrap (a0.getD (10 : Int).toNat 0)), .int .i64 x78, .slice A82 (((a0.take (IntKind.i64.wrap (14 + (IntKind.i64.wrap (a0.getD (13 : Int).toNat 0)))).toNat).drop ((14 : Int)).toNat)).length c83]) (H.f2.f1.f2) (F.t 5 rfl) (F.t 43 rfl) rfl sz53 rfl (Nat.le_of_ble_eq_true rfl) rfl rfl
     refine d1 21 rfl (by kernel_rfl) (qn F (.inl rfl) (hr _ _ _ _) fun a F => ?_)
     have HS := H.fx1.fx0
     refine kg _ HS (fun w S => S) ?_
     refine ddone (by kernel_rfl) ?_
     replace F := F.only [5, 4, 2, 0] (l' := [(5, _), (4, _), (2, _), (0, _)]) rfl
     try dsimp only at k_21
     obtain rfl := Option.some.inj k_21
     exact ⟨_, _, _, _, rfl, g77, A82, c83, F.only [0, 2, 4, 5] rfl, H.px9.px8.px7.px6.px5.px4.px3.px2.px1.px0.f2.f1.f2⟩
    skip
    refine lbs F H (e := 5) (vs := []) (cs := []) rfl (fun w => by kernel_rfl) fun g84 w a H F => ?_
    have HS := H.fx1.fx0
    refine kg _ HS (fun w S => S) ?_
    obtain ⟨x85, e86, k_21⟩ := Option.bind_eq_some_iff.1 k_21
    try dsimp only at k_21
    refine d1 12 rfl (by kernel_rfl) (call F Try.func103 (ref16_Read_ok (H.p1) e86) rfl rfl fun v w hR a F => ?_)
    obtain ⟨rfl, H⟩ := hR
    have HS := H.fx1.fx0
    refine kg _ HS (fun w S => S) ?_
    replace H := Hp.litOwn (kd := kByte) (xs := []) (H) (SayL.nil) (Nat.le_of_ble_eq_true rfl)
    obtain ⟨c87, k_21⟩ := guardO k_21
    obtain ⟨A88, c89, _, hr, H⟩ := Hp.appendRd (kd := kByte) (xs := []) (ys := ((a0.take (IntKind.i64.wrap (14 + (IntKind.i64.wrap (a0.getD (13 : Int).toNat 0)))).toNat).drop ((14 : Int)).toNat)) (H) 0 rfl (F.t 37 rfl) (F.t 41 rfl) Try.underlying29 ti5 rfl (by decide) (by decide) c87
    rw [List.nil_append] at hr H
    refine d1 18 rfl (by kernel_rfl) (qv F (hr _ _ _ _ _) fun a F => ?_)
    have HS := H.fx1.fx0
    refine kg _ HS (fun w S => S) ?_
    refine dk 19 F rfl NP HS (fun w S => (r_bd F (vs := [(0, .int .i64 x40), (1, .int .i64 x42), (2, .int .i64 (IntKind.i64.wrap (a0.getD (10 : Int).toNat 0))), (3, .int .i64 x85), (4, .slice A88 (((a0.take (IntKind.i64.wrap (14 + (IntKind.i64.wrap (a0.getD (13 : Int).toNat 0)))).toNat).drop ((14 : Int)).toNat)).length c89)]) (cs := [.int .i64 x40, .int .i64 x42, .int .i64 (IntKind.i64.wrap (a0.getD (10 : Int).toNat 0)), .int .i64 x85, .slice A88 (((a0.take (IntKind.i64.wrap (14 + (IntKind.i64.wrap (a0.getD (13 : Int).toNat 0)))).toNat).drop ((14 : Int)).toNat)).length c89]) rfl (fun w => by kernel_rfl))) fun a F => ?_
    obtain ⟨_, hr, H⟩ := Hp.store (t := 53) (o := 0) (n := 5) (vs := [.int .i64 x40, .int .i64 x42, .int .i64 (IntKind.i64.wrap (a0.getD (10 : Int).toNat 0)), .int .i64 x85, .slice A88 (((a0.take (IntKind.i64.wrap (14 + (IntKind.i64.wrap (a0.getD (13 : Int).toNat 0)))).toNat).drop ((14 : Int)).toNat)).length c89]) (cs' := [.int .i64 x40, .int .i64 x42, .int .i64 (IntKind.i64.wrap (a0.getD (10 : Int).toNat 0)), .int .i64 x85, .slice A88 (((a0.take (IntKind.i64.wrap (14 + (IntKind.i64.wrap (a0.getD (13 : Int).toNat 0)))).toNat).drop ((14 : Int)).toNat)).length c89]) (H.f2.f1.f2) (F.t 5 rfl) (F.t 43 rfl) rfl sz53 rfl (Nat.le_of_ble_eq_true rfl) rfl rfl
    refine d1 21 rfl (by kernel_rfl) (qn F (.inl rfl) (hr _ _ _ _) fun a F => ?_)
    have HS := H.fx1.fx0
    refine kg _ HS (fun w S => S) ?_
    refine ddone (by kernel_rfl) ?_
    replace F := F.only [5, 4, 2, 0] (l' := [(5, _), (4, _), (2, _), (0, _)]) rfl
    try dsimp only at k_21
    obtain rfl := Option.some.inj k_21
    exact ⟨_, _, _, _, rfl, g77, A88, c89, F.only [0, 2, 4, 5] rfl, H.px9.px8.px7.px6.px5.px4.px3.px2.px1.px0.f2.f1.f2⟩
   ·skip
    refine lbs F H (e := 5) (vs := []) (cs := []) rfl (fun w => by kernel_rfl) fun g90 w a H F => ?_
    have HS := H.fx0
    refine kg _ HS (fun w S => S) ?_
    refine d2 5 20 rfl rfl (by kernel_rfl) ?_ ?_
    ·skip
     obtain ⟨x91, e92, k_21⟩ := Option.bind_eq_some_iff.1 k_21
     try dsimp only at k_21
     refine call F Try.func103 (ref16_Read_ok (H.p4) e92) rfl rfl fun v w hR a F => ?_
     obtain ⟨rfl, H⟩ := hR
     have HS := H.fx0
     refine kg _ HS (fun w S => S) ?_
     refine d2 12 20 rfl rfl (by kernel_rfl) ?_ ?_
     ·skip
      obtain ⟨x93, e94, k_21⟩ := Option.bind_eq_some_iff.1 k_21
      try dsimp only at k_21
      refine call F Try.func103 (ref16_Read_ok (H.p1) e94) rfl rfl fun v w hR a F => ?_
      obtain ⟨rfl, H⟩ := hR
      have HS := H.fx0
      refine kg _ HS (fun w S => S) ?_
      refine d2 18 20 rfl rfl (by kernel_rfl) ?_ ?_
      ·skip
       replace H := Hp.litOwn (kd := kByte) (xs := []) (H) (SayL.nil) (Nat.le_of_ble_eq_true rfl)
       obtain ⟨c95, k_21⟩ := guardO k_21
       obtain ⟨A96, c97, _, hr, H⟩ := Hp.appendRd (kd := kByte) (xs := []) (ys := ((a0.take (IntKind.i64.wrap (14 + (IntKind.i64.wrap (a0.getD (13 : Int).toNat 0)))).toNat).drop ((14 : Int)).toNat)) (H) 0 rfl (F.t 37 rfl) (F.t 41 rfl) Try.underlying29 ti5 rfl (by decide) (by decide) c95
       rw [List.nil_append] at hr H
       refine qv F (hr _ _ _ _ _) fun a F => ?_
       have HS := H.fx0
       refine kg _ HS (fun w S => S) ?_
       refine dk 19 F rfl NP HS (fun w S => (r_bd F (vs := [(0, .int .i64 x40), (1, .int .i64 x91), (2, .int .i64 (IntKind.i64.wrap (a0.getD (10 : Int).toNat 0))), (3, .int .i64 x93), (4, .slice A96 (((a0.take (IntKind.i64.wrap (14 + (IntKind.i64.wrap (a0.getD (13 : Int).toNat 0)))).toNat).drop ((14 : Int)).toNat)).length c97)]) (cs := [.int .i64 x40, .int .i64 x91, .int .i64 (IntKind.i64.wrap (a0.getD (10 : Int).toNat 0)), .int .i64 x93, .slice A96 (((a0.take (IntKind.i64.wrap (14 + (IntKind.i64.wrap (a0.getD (13 : Int).toNat 0)))).toNat).drop ((14 : Int)).toNat)).length c97]) rfl (fun w => by kernel_rfl))) fun a F => ?_
       refine d1 20 rfl (by kernel_rfl) (lal F H ti53 (cs := [.int .i64 0, .int .i64 0, .int .i64 0, .int .i64 0, .slice none 0 0]) rfl fun g98 w a H F => ?_)
       have HS := H.fx1.fx0
       refine kg _ HS (fun w S => S) ?_
       obtain ⟨_, hr, H⟩ := Hp.store (t := 53) (o := 0) (n := 5) (vs := [.int .i64 x40, .int .i64 x91, .int .i64 (IntKind.i64.wrap (a0.getD (10 : Int).toNat 0)), .int .i64 x93, .slice A96 (((a0.take (IntKind.i64.wrap (14 + (IntKind.i64.wrap (a0.getD (13 : Int).toNat 0)))).toNat).drop ((14 : Int)).toNat)).length c97]) (cs' := [.int .i64 x40, .int .i64 x91, .int .i64 (IntKind.i64.wrap (a0.getD (10 : Int).toNat 0)), .int .i64 x93, .slice A96 (((a0.take (IntKind.i64.wrap (14 + (IntKind.i64.wrap (a0.getD (13 : Int).toNat 0)))).toNat).drop ((14 : Int)).toNat)).length c97]) (H) (F.t 5 rfl) (F.t 43 rfl) rfl sz53 rfl (Nat.le_of_ble_eq_true rfl) rfl rfl
       refine d1 21 rfl (by kernel_rfl) (qn F (.inl rfl) (hr _ _ _ _) fun a F => ?_)
       have HS := H.fx1.fx0
       refine kg _ HS (fun w S => S) ?_
       refine ddone (by kernel_rfl) ?_
       replace F := F.only [5, 4, 2, 0] (l' := [(5, _), (4, _), (2, _), (0, _)]) rfl
       try dsimp only at k_21
       obtain rfl := Option.some.inj k_21
       exact ⟨_, _, _, _, rfl, g98, A96, c97, F.only [0, 2, 4, 5] rfl, H.px9.px8.px7.px6.px5.px4.px3.px2.px1.px0.f2.f1.f2⟩
      skip
      refine lal F H ti53 (cs := [.int .i64 0, .int .i64 0, .int .i64 0, .int .i64 0, .slice none 0 0]) rfl fun g99 w a H F => ?_
      have HS := H.fx1.fx0
      refine kg _ HS (fun w S => S) ?_
      replace H := Hp.litOwn (kd := kByte) (xs := []) (H.f2.f1.f2) (SayL.nil) (Nat.le_of_ble_eq_true rfl)
      obtain ⟨c100, k_21⟩ := guardO k_21
      obtain ⟨A101, c102, _, hr, H⟩ := Hp.appendRd (kd := kByte) (xs := []) (ys := ((a0.take (IntKind.i64.wrap (14 + (IntKind.i64.wrap (a0.getD (13 : Int).toNat 0)))).toNat).drop ((14 : Int)).toNat)) (H) 0 rfl (F.t 37 rfl) (F.t 41 rfl) Try.underlying29 ti5 rfl (by decide) (by decide) c100
      rw [List.nil_append] at hr H
      refine d1 18 rfl (by kernel_rfl) (qv F (hr _ _ _ _ _) fun a F => ?_)
      have HS := H.fx1.fx0
      refine kg _ HS (fun w S => S) ?_
      refine dk 19 F rfl NP HS (fun w S => (r_bd F (vs := [(0, .int .i64 x40), (1, .int .i64 x91), (2, .int .i64 (IntKind.i64.wrap (a0.getD (10 : Int).toNat 0))), (3, .int .i64 x93), (4, .slice A101 (((a0.take (IntKind.i64.wrap (14 + (IntKind.i64.wrap (a0.getD (13 : Int).toNat 0)))).toNat).drop ((14 : Int)).toNat)).length c102)]) (cs := [.int .i64 x40, .int .i64 x91, .int .i64 (IntKind.i64.wrap (a0.getD (10 : Int).toNat 0)), .int .i64 x93, .slice A101 (((a0.take (IntKind.i64.wrap (14 + (IntKind.i64.wrap (a0.getD (13 : Int).toNat 0)))).toNat).drop ((14 : Int)).toNat)).length c102]) rfl (fun w => by kernel_rfl))) fun a F => ?_
      obtain ⟨_, hr, H⟩ := Hp.store (t := 53) (o := 0) (n := 5) (vs := [.int .i64 x40, .int .i64 x91, .int .i64 (IntKind.i64.wrap (a0.getD (10 : Int).toNat 0)), .int .i64 x93, .slice A101 (((a0.take (IntKind.i64.wrap (14 + (IntKind.i64.wrap (a0.getD (13 : Int).toNat 0)))).toNat).drop ((14 : Int)).toNat)).length c102]) (cs' := [.int .i64 x40, .int .i64 x91, .int .i64 (IntKind.i64.wrap (a0.getD (10 : Int).toNat 0)), .int .i64 x93, .slice A101 (((a0.take (IntKind.i64.wrap (14 + (IntKind.i64.wrap (a0.getD (13 : Int).toNat 0)))).toNat).drop ((14 : Int)).toNat)).length c102]) (H.f2.f1.f2) (F.t 5 rfl) (F.t 43 rfl) rfl sz53 rfl (Nat.le_of_ble_eq_true rfl) rfl rfl
      refine d1 21 rfl (by kernel_rfl) (qn F (.inl rfl) (hr _ _ _ _) fun a F => ?_)
      have HS := H.fx1.fx0
      refine kg _ HS (fun w S => S) ?_
      refine ddone (by kernel_rfl) ?_
      replace F := F.only [5, 4, 2, 0] (l' := [(5, _), (4, _), (2, _), (0, _)]) rfl
      try dsimp only at k_21
      obtain rfl := Option.some.inj k_21
      exact ⟨_, _, _, _, rfl, g99, A101, c102, F.only [0, 2, 4, 5] rfl, H.px9.px8.px7.px6.px5.px4.px3.px2.px1.px0.f2.f1.f2⟩
     skip
     refine lal F H ti53 (cs := [.int .i64 0, .int .i64 0, .int .i64 0, .int .i64 0, .slice none 0 0]) rfl fun g103 w a H F => ?_
     have HS := H.fx1.fx0
     refine kg _ HS (fun w S => S) ?_
     obtain ⟨x104, e105, k_21⟩ := Option.bind_eq_some_iff.1 k_21
     try dsimp only at k_21
     refine d1 12 rfl (by kernel_rfl) (call F Try.func103 (ref16_Read_ok (H.p1) e105) rfl rfl fun v w hR a F => ?_)
     obtain ⟨rfl, H⟩ := hR
     have HS := H.fx1.fx0
     refine kg _ HS (fun w S => S) ?_
     replace H := Hp.litOwn (kd := kByte) (xs := []) (H.f2.f1.f2) (SayL.nil) (Nat.le_of_ble_eq_true rfl)
     obtain ⟨c106, k_21⟩ := guardO k_21
     obtain ⟨A107, c108, _, hr, H⟩ := Hp.appendRd (kd := kByte) (xs := []) (ys := ((a0.take (IntKind.i64.wrap (14 + (IntKind.i64.wrap (a0.getD (13 : Int).toNat 0)))).toNat).drop ((14 : Int)).toNat)) (H) 0 rfl (F.t 37 rfl) (F.t 41 rfl) Try.underlying29 ti5 rfl (by decide) (by decide) c106
     rw [List.nil_append] at hr H
     refine d1 18 rfl (by kernel_rfl) (qv F (hr _ _ _ _ _) fun a F => ?_)
     have HS := H.fx1.fx0
     refine kg _ HS (fun w S => S) ?_
     refine dk 19 F rfl NP HS (fun w S => (r_bd F (vs := [(0, .int .i64 x40), (1, .int .i64 x91), (2, .int .i64 (IntKind.i64.wrap (a0.getD (10 : Int).toNat 0))), (3, .int .i64 x104), (4, .slice A107 (((a0.take (IntKind.i64.wrap (14 + (IntKind.i64.wrap (a0.getD (13 : Int).toNat 0)))).toNat).drop ((14 : Int)).toNat)).length c108)]) (cs := [.int .i64 x40, .int .i64 x91, .int .i64 (IntKind.i64.wrap (a0.getD (10 : Int).toNat 0)), .int .i64 x104, .slice A107 (((a0.take (IntKind.i64.wrap (14 + (IntKind.i64.wrap (a0.getD (13 : Int).toNat 0)))).toNat).drop ((14 : Int)).toNat)).length c108]) rfl (fun w => by kernel_rfl))) fun a F => ?_
     obtain ⟨_, hr, H⟩ := Hp.store (t := 53) (o := 0) (n := 5) (vs := [.int .i64 x40, .int .i64 x91, .int .i64 (IntKind.i64.wrap (a0.getD (10 : Int).toNat 0)), .int .i64 x104, .slice A107 (((a0.take (IntKind.i64.wrap (14 + (IntKind.i64.wrap (a0.getD (13 : Int).toNat 0)))).toNat).drop ((14 : Int)).toNat)).length c108]) (cs' := [.int .i64 x40, .int .i64 x91, .int .i64 (IntKind.i64.wrap (a0.getD (10 : Int).toNat 0)), .int .i64 x104, .slice A107 (((a0.take (IntKind.i64.wrap (14 + (IntKind.i64.wrap (a0.getD (13 : Int).toNat 0)))).toNat).drop ((14 : Int)).toNat)).length c108]) (H.f2.f1.f2) (F.t 5 rfl) (F.t 43 rfl) rfl sz53 rfl (Nat.le_of_ble_eq_true rfl) rfl rfl
     refine d1 21 rfl (by kernel_rfl) (qn F (.inl rfl) (hr _ _ _ _) fun a F => ?_)
     have HS := H.fx1.fx0
     refine kg _ HS (fun w S => S) ?_
     refine ddone (by kernel_rfl) ?_
     replace F := F.only [5, 4, 2, 0] (l' := [(5, _), (4, _), (2, _), (0, _)]) rfl
     try dsimp only at k_21
     obtain rfl := Option.some.inj k_21
     exact ⟨_, _, _, _, rfl, g103, A107, c108, F.only [0, 2, 4, 5] rfl, H.px9.px8.px7.px6.px5.px4.px3.px2.px1.px0.f2.f1.f2⟩
    skip
    refine lal F H ti53 (cs := [.int .i64 0, .int .i64 0, .int .i64 0, .int .i64 0, .slice none 0 0]) rfl fun g109 w a H F => ?_
    have HS := H.fx1.fx0
    refine kg _ HS (fun w S => S) ?_
    obtain ⟨x110, e111, k_21⟩ := Option.bind_eq_some_iff.1 k_21
    try dsimp only at k_21
    refine d1 5 rfl (by kernel_rfl) (call F Try.func103 (ref16_Read_ok (H.p4) e111) rfl rfl fun v w hR a F => ?_)
    obtain ⟨rfl, H⟩ := hR
    have HS := H.fx1.fx0
    refine kg _ HS (fun w S => S) ?_
    obtain ⟨x112, e113, k_21⟩ := Option.bind_eq_some_iff.1 k_21
    try dsimp only at k_21
    refine d1 12 rfl (by kernel_rfl) (call F Try.func103 (ref16_Read_ok (H.p1) e113) rfl rfl fun v w hR a F => ?_)
    obtain ⟨rfl, H⟩ := hR
    have HS := H.fx1.fx0
    refine kg _ HS (fun w S => S) ?_
    replace H := Hp.litOwn (kd := kByte) (xs := []) (H.f2.f1.f2) (SayL.nil) (Nat.le_of_ble_eq_true rfl)
    obtain ⟨c114, k_21⟩ := guardO k_21
    obtain ⟨A115, c116, _, hr, H⟩ := Hp.appendRd (kd := kByte) (xs := []) (ys := ((a0.take (IntKind.i64.wrap (14 + (IntKind.i64.wrap (a0.getD (13 : Int).toNat 0)))).toNat).drop ((14 : Int)).toNat)) (H) 0 rfl (F.t 37 rfl) (F.t 41 rfl) Try.underlying29 ti5 rfl (by decide) (by decide) c114
    rw [List.nil_append] at hr H
    refine d1 18 rfl (by kernel_rfl) (qv F (hr _ _ _ _ _) fun a F => ?_)
    have HS := H.fx1.fx0
    refine kg _ HS (fun w S => S) ?_
    refine dk 19 F rfl NP HS (fun w S => (r_bd F (vs := [(0, .int .i64 x40), (1, .int .i64 x110), (2, .int .i64 (IntKind.i64.wrap (a0.getD (10 : Int).toNat 0))), (3, .int .i64 x112), (4, .slice A115 (((a0.take (IntKind.i64.wrap (14 + (IntKind.i64.wrap (a0.getD (13 : Int).toNat 0)))).toNat).drop ((14 : Int)).toNat)).length c116)]) (cs := [.int .i64 x40, .int .i64 x110, .int .i64 (IntKind.i64.wrap (a0.getD (10 : Int).toNat 0)), .int .i64 x112, .slice A115 (((a0.take (IntKind.i64.wrap (14 + (IntKind.i64.wrap (a0.getD (13 : Int).toNat 0)))).toNat).drop ((14 : Int)).toNat)).length c116]) rfl (fun w => by kernel_rfl))) fun a F => ?_
    obtain ⟨_, hr, H⟩ := Hp.store (t := 53) (o := 0) (n := 5) (vs := [.int .i64 x40, .int .i64 x110, .int .i64 (IntKind.i64.wrap (a0.getD (10 : Int).toNat 0)), .int .i64 x112, .slice A115 (((a0.take (IntKind.i64.wrap (14 + (IntKind.i64.wrap (a0.getD (13 : Int).toNat 0)))).toNat).drop ((14 : Int)).toNat)).length c116]) (cs' := [.int .i64 x40, .int .i64 x110, .int .i64 (IntKind.i64.wrap (a0.getD (10 : Int).toNat 0)), .int .i64 x112, .slice A115 (((a0.take (IntKind.i64.wrap (14 + (IntKind.i64.wrap (a0.getD (13 : Int).toNat 0)))).toNat).drop ((14 : Int)).toNat)).length c116]) (H.f2.f1.f2) (F.t 5 rfl) (F.t 43 rfl) rfl sz53 rfl (Nat.le_of_ble_eq_true rfl) rfl rfl
    refine d1 21 rfl (by kernel_rfl) (qn F (.inl rfl) (hr _ _ _ _) fun a F => ?_)
    have HS := H.fx1.fx0
    refine kg _ HS (fun w S => S) ?_
    refine ddone (by kernel_rfl) ?_
    replace F := F.only [5, 4, 2, 0] (l' := [(5, _), (4, _), (2, _), (0, _)]) rfl
    try dsimp only at k_21
    obtain rfl := Option.some.inj k_21
    exact ⟨_, _, _, _, rfl, g109, A115, c116, F.only [0, 2, 4, 5] rfl, H.px9.px8.px7.px6.px5.px4.px3.px2.px1.px0.f2.f1.f2⟩
   skip
   refine lal F H ti53 (cs := [.int .i64 0, .int .i64 0, .int .i64 0, .int .i64 0, .slice none 0 0]) rfl fun g117 w a H F => ?_
   have HS := H.fx0
   refine kg _ HS (fun w S => S) ?_
   refine d2 5 13 rfl rfl (by kernel_rfl) ?_ ?_
   ·skip
    obtain ⟨x118, e119, k_21⟩ := Option.bind_eq_some_iff.1 k_21
    try dsimp only at k_21
    refine call F Try.func103 (ref16_Read_ok (H.p4) e119) rfl rfl fun v w hR a F => ?_
    obtain ⟨rfl, H⟩ := hR
    have HS := H.fx0
    refine kg _ HS (fun w S => S) ?_
    refine d2 12 13 rfl rfl (by kernel_rfl) ?_ ?_
    ·skip
     obtain ⟨x120, e121, k_21⟩ := Option.bind_eq_some_iff.1 k_21
     try dsimp only at k_21
     refine call F Try.func103 (ref16_Read_ok (H.p1) e121) rfl rfl fun v w hR a F => ?_
     obtain ⟨rfl, H⟩ := hR
     have HS := H.fx0
     refine kg _ HS (fun w S => S) ?_
     refine d1 13 rfl (by kernel_rfl) (lbs F H (e := 5) (vs := []) (cs := []) rfl (fun w => by kernel_rfl) fun g122 w a H F => ?_)
     have HS := H.fx1.fx0
     refine kg _ HS (fun w S => S) ?_
     replace H := Hp.litOwn (kd := kByte) (xs := []) (H) (SayL.nil) (Nat.le_of_ble_eq_true rfl)
     obtain ⟨c123, k_21⟩ := guardO k_21
     obtain ⟨A124, c125, _, hr, H⟩ := Hp.appendRd (kd := kByte) (xs := []) (ys := ((a0.take (IntKind.i64.wrap (14 + (IntKind.i64.wrap (a0.getD (13 : Int).toNat 0)))).toNat).drop ((14 : Int)).toNat)) (H) 0 rfl (F.t 37 rfl) (F.t 41 rfl) Try.underlying29 ti5 rfl (by decide) (by decide) c123
     rw [List.nil_append] at hr H
     refine d1 18 rfl (by kernel_rfl) (qv F (hr _ _ _ _ _) fun a F => ?_)
     have HS := H.fx1.fx0
     refine kg _ HS (fun w S => S) ?_
     refine dk 19 F rfl NP HS (fun w S => (r_bd F (vs := [(0, .int .i64 x40), (1, .int .i64 x118), (2, .int .i64 (IntKind.i64.wrap (a0.getD (10 : Int).toNat 0))), (3, .int .i64 x120), (4, .slice A124 (((a0.take (IntKind.i64.wrap (14 + (IntKind.i64.wrap (a0.getD (13 : Int).toNat 0)))).toNat).drop ((14 : Int)).toNat)).length c125)]) (cs := [.int .i64 x40, .int .i64 x118, .int .i64 (IntKind.i64.wrap (a0.getD (10 : Int).toNat 0)), .int .i64 x120, .slice A124 (((a0.take (IntKind.i64.wrap (14 + (IntKind.i64.wrap (a0.getD (13 : Int).toNat 0)))).toNat).drop ((14 : Int)).toNat)).length c125]) rfl (fun w => by kernel_rfl))) fun a F => ?_
     obtain ⟨_, hr, H⟩ := Hp.store (t := 53) (o := 0) (n := 5) (vs := [.int .i64 x40, .int .i64 x118, .int .i64 (IntKind.i64.wrap (a0.getD (10 : Int).toNat 0)), .int .i64 x120, .slice A124 (((a0.take (IntKind.i64.wrap (14 + (IntKind.i64.wrap (a0.getD (13 : Int).toNat 0)))).toNat).drop ((14 : Int)).toNat)).length c125]) (cs' := [.int .i64 x40, .int .i64 x118, .int .i64 (IntKind.i64.wrap (a0.getD (10 : Int).toNat 0)), .int .i64 x120, .slice A124 (((a0.take (IntKind.i64.wrap (14 + (IntKind.i64.wrap (a0.getD (13 : Int).toNat 0)))).toNat).drop ((14 : Int)).toNat)).length c125]) (H.f2.f1.f2) (F.t 5 rfl) (F.t 43 rfl) rfl sz53 rfl (Nat.le_of_ble_eq_true rfl) rfl rfl
     refine d1 21 rfl (by kernel_rfl) (qn F (.inl rfl) (hr _ _ _ _) fun a F => ?_)
     have HS := H.fx1.fx0
     refine kg _ HS (fun w S => S) ?_
     refine ddone (by kernel_rfl) ?_
     replace F := F.only [5, 4, 2, 0] (l' := [(5, _), (4, _), (2, _), (0, _)]) rfl
     try dsimp only at k_21
     obtain rfl := Option.some.inj k_21
     exact ⟨_, _, _, _, rfl, g117, A124, c125, F.only [0, 2, 4, 5] rfl, H.px9.px8.px7.px6.px5.px4.px3.px2.px1.px0.f2.f1.f2⟩
    skip
    refine lbs F H (e := 5) (vs := []) (cs := []) rfl (fun w => by kernel_rfl) fun g126 w a H F => ?_
    have HS := H.fx1.fx0
    refine kg _ HS (fun w S => S) ?_
    obtain ⟨x127, e128, k_21⟩ := Option.bind_eq_some_iff.1 k_21
    try dsimp only at k_21
    refine d1 12 rfl (by kernel_rfl) (call F Try.func103 (ref16_Read_ok (H.p1) e128) rfl rfl fun v w hR a F => ?_)
    obtain ⟨rfl, H⟩ := hR
    have HS := H.fx1.fx0
    refine kg _ HS (fun w S => S) ?_
    replace H := Hp.litOwn (kd := kByte) (xs := []) (H) (SayL.nil) (Nat.le_of_ble_eq_true rfl)
    obtain ⟨c129, k_21⟩ := guardO k_21
    obtain ⟨A130, c131, _, hr, H⟩ := Hp.appendRd (kd := kByte) (xs := []) (ys := ((a0.take (IntKind.i64.wrap (14 + (IntKind.i64.wrap (a0.getD (13 : Int).toNat 0)))).toNat).drop ((14 : Int)).toNat)) (H) 0 rfl (F.t 37 rfl) (F.t 41 rfl) Try.underlying29 ti5 rfl (by decide) (by decide) c129
    rw [List.nil_append] at hr H
    refine d1 18 rfl (by kernel_rfl) (qv F (hr _ _ _ _ _) fun a F => ?_)
    have HS := H.fx1.fx0
    refine kg _ HS (fun w S => S) ?_
    refine dk 19 F rfl NP HS (fun w S => (r_bd F (vs := [(0, .int .i64 x40), (1, .int .i64 x118), (2, .int .i64 (IntKind.i64.wrap (a0.getD (10 : Int).toNat 0))), (3, .int .i64 x127), (4, .slice A130 (((a0.take (IntKind.i64.wrap (14 + (IntKind.i64.wrap (a0.getD (13 : Int).toNat 0)))).toNat).drop ((14 : Int)).toNat)).length c131)]) (cs := [.int .i64 x40, .int .i64 x118, .int .i64 (IntKind.i64.wrap (a0.getD (10 : Int).toNat 0)), .int .i64 x127, .slice A130 (((a0.take (IntKind.i64.wrap (14 + (IntKind.i64.wrap (a0.getD (13 : Int).toNat 0)))).toNat).drop ((14 : Int)).toNat)).length c131]) rfl (fun w => by kernel_rfl))) fun a F => ?_
    obtain ⟨_, hr, H⟩ := Hp.store (t := 53) (o := 0) (n := 5) (vs := [.int .i64 x40, .int .i64 x118, .int .i64 (IntKind.i64.wrap (a0.getD (10 : Int).toNat 0)), .int .i64 x127, .slice A130 (((a0.take (IntKind.i64.wrap (14 + (IntKind.i64.wrap (a0.getD (13 : Int).toNat 0)))).toNat).drop ((14 : Int)).toNat)).length c131]) (cs' := [.int .i64 x40, .int .i64 x118, .int .i64 (IntKind.i64.wrap (a0.getD (10 : Int).toNat 0)), .int .i64 x127, .slice A130 (((a0.take (IntKind.i64.wrap (14 + (IntKind.i64.wrap (a0.getD (13 : Int).toNat 0)))).toNat).drop ((14 : Int)).toNat)).length c131]) (H.f2.f1.f2) (F.t 5 rfl) (F.t 43 rfl) rfl sz53 rfl (Nat.le_of_ble_eq_true rfl) rfl rfl
    refine d1 21 rfl (by kernel_rfl) (qn F (.inl rfl) (hr _ _ _ _) fun a F => ?_)
    have HS := H.fx1.fx0
    refine kg _ HS (fun w S => S) ?_
    refine ddone (by kernel_rfl) ?_
    replace F := F.only [5, 4, 2, 0] (l' := [(5, _), (4, _), (2, _), (0, _)]) rfl
    try dsimp only at k_21
    obtain rfl := Option.some.inj k_21
    exact ⟨_, _, _, _, rfl, g117, A130, c131, F.only [0, 2, 4, 5] rfl, H.px9.px8.px7.px6.px5.px4.px3.px2.px1.px0.f2.f1.f2⟩
   skip
   refine lbs F H (e := 5) (vs := []) (cs := []) rfl (fun w => by kernel_rfl) fun g132 w a H F => ?_
   have HS := H.fx1.fx0
   refine kg _ HS (fun w S => S) ?_
   obtain ⟨x133, e134, k_21⟩ := Option.bind_eq_some_iff.1 k_21
   try dsimp only at k_21
   refine d1 5 rfl (by kernel_rfl) (call F Try.func103 (ref16_Read_ok (H.p4) e134) rfl rfl fun v w hR a F => ?_)
   obtain ⟨rfl, H⟩ := hR
   have HS := H.fx1.fx0
   refine kg _ HS (fun w S => S) ?_
   obtain ⟨x135, e136, k_21⟩ := Option.bind_eq_some_iff.1 k_21
   try dsimp only at k_21
   refine d1 12 rfl (by kernel_rfl) (call F Try.func103 (ref16_Read_ok (H.p1) e136) rfl rfl fun v w hR a F => ?_)
   obtain ⟨rfl, H⟩ := hR
   have HS := H.fx1.fx0
   refine kg _ HS (fun w S => S) ?_
   replace H := Hp.litOwn (kd := kByte) (xs := []) (H) (SayL.nil) (Nat.le_of_ble_eq_true rfl)
   obtain ⟨c137, k_21⟩ := guardO k_21
   obtain ⟨A138, c139, _, hr, H⟩ := Hp.appendRd (kd := kByte) (xs := []) (ys := ((a0.take (IntKind.i64.wrap (14 + (IntKind.i64.wrap (a0.getD (13 : Int).toNat 0)))).toNat).drop ((14 : Int)).toNat)) (H) 0 rfl (F.t 37 rfl) (F.t 41 rfl) Try.underlying29 ti5 rfl (by decide) (by decide) c137
   rw [List.nil_append] at hr H
   refine d1 18 rfl (by kernel_rfl) (qv F (hr _ _ _ _ _) fun a F => ?_)
   have HS := H.fx1.fx0
   refine kg _ HS (fun w S => S) ?_
   refine dk 19 F rfl NP HS (fun w S => (r_bd F (vs := [(0, .int .i64 x40), (1, .int .i64 x133), (2, .int .i64 (IntKind.i64.wrap (a0.getD (10 : Int).toNat 0))), (3, .int .i64 x135), (4, .slice A138 (((a0.take (IntKind.i64.wrap (14 + (IntKind.i64.wrap (a0.getD (13 : Int).toNat 0)))).toNat).drop ((14 : Int)).toNat)).length c139)]) (cs := [.int .i64 x40, .int .i64 x133, .int .i64 (IntKind.i64.wrap (a0.getD (10 : Int).toNat 0)), .int .i64 x135, .slice A138 (((a0.take (IntKind.i64.wrap (14 + (IntKind.i64.wrap (a0.getD (13 : Int).toNat 0)))).toNat).drop ((14 : Int)).toNat)).length c139]) rfl (fun w => by kernel_rfl))) fun a F => ?_
   obtain ⟨_, hr, H⟩ := Hp.store (t := 53) (o := 0) (n := 5) (vs := [.int .i64 x40, .int .i64 x133, .int .i64 (IntKind.i64.wrap (a0.getD (10 : Int).toNat 0)), .int .i64 x135, .slice A138 (((a0.take (IntKind.i64.wrap (14 + (IntKind.i64.wrap (a0.getD (13 : Int).toNat 0)))).toNat).drop ((14 : Int)).toNat)).length c139]) (cs' := [.int .i64 x40, .int .i64 x133, .int .i64 (IntKind.i64.wrap (a0.getD (10 : Int).toNat 0)), .int .i64 x135, .slice A138 (((a0.take (IntKind.i64.wrap (14 + (IntKind.i64.wrap (a0.getD (13 : Int).toNat 0)))).toNat).drop ((14 : Int)).toNat)).length c139]) (H.f2.f1.f2) (F.t 5 rfl) (F.t 43 rfl) rfl sz53 rfl (Nat.le_of_ble_eq_true rfl) rfl rfl
   refine d1 21 rfl (by kernel_rfl) (qn F (.inl rfl) (hr _ _ _ _) fun a F => ?_)
   have HS := H.fx1.fx0
   refine kg _ HS (fun w S => S) ?_
   refine ddone (by kernel_rfl) ?_
   replace F := F.only [5, 4, 2, 0] (l' := [(5, _), (4, _), (2, _), (0, _)]) rfl
   try dsimp only at k_21
   obtain rfl := Option.some.inj k_21
   exact ⟨_, _, _, _, rfl, g117, A138, c139, F.only [0, 2, 4, 5] rfl, H.px9.px8.px7.px6.px5.px4.px3.px2.px1.px0.f2.f1.f2⟩
  ·skip
   refine lbs F H (e := 5) (vs := []) (cs := []) rfl (fun w => by kernel_rfl) fun g140 w a H F => ?_
   have HS := H.fx0
   refine kg _ HS (fun w S => S) ?_
   refine d2 2 20 rfl rfl (by kernel_rfl) ?_ ?_
   ·skip
    obtain ⟨x141, e142, k_21⟩ := Option.bind_eq_some_iff.1 k_21
    try dsimp only at k_21
    refine call F Try.func103 (ref16_Read_ok (H.p5) e142) rfl rfl fun v w hR a F => ?_
    obtain ⟨rfl, H⟩ := hR
    have HS := H.fx0
    refine kg _ HS (fun w S => S) ?_
    refine d2 5 20 rfl rfl (by kernel_rfl) ?_ ?_
    ·skip
     obtain ⟨x143, e144, k_21⟩ := Option.bind_eq_some_iff.1 k_21
     try dsimp only at k_21
     refine call F Try.func103 (ref16_Read_ok (H.p4) e144) rfl rfl fun v w hR a F => ?_
     obtain ⟨rfl, H⟩ := hR
     have HS := H.fx0
     refine kg _ HS (fun w S => S) ?_
     refine d2 12 20 rfl rfl (by kernel_rfl) ?_ ?_
     ·skip
      obtain ⟨x145, e146, k_21⟩ := Option.bind_eq_some_iff.1 k_21
      try dsimp only at k_21
      refine call F Try.func103 (ref16_Read_ok (H.p1) e146) rfl rfl fun v w hR a F => ?_
      obtain ⟨rfl, H⟩ := hR
      have HS := H.fx0
      refine kg _ HS (fun w S => S) ?_
      refine d2 18 20 rfl rfl (by kernel_rfl) ?_ ?_
      ·skip
       replace H := Hp.litOwn (kd := kByte) (xs := []) (H) (SayL.nil) (Nat.le_of_ble_eq_true rfl)
       obtain ⟨c147, k_21⟩ := guardO k_21
       obtain ⟨A148, c149, _, hr, H⟩ := Hp.appendRd (kd := kByte) (xs := []) (ys := ((a0.take (IntKind.i64.wrap (14 + (IntKind.i64.wrap (a0.getD (13 : Int).toNat 0)))).toNat).drop ((14 : Int)).toNat)) (H) 0 rfl (F.t 37 rfl) (F.t 41 rfl) Try.underlying29 ti5 rfl (by decide) (by decide) c147
       rw [List.nil_append] at hr H
       refine qv F (hr _ _ _ _ _) fun a F => ?_
       have HS := H.fx0
       refine kg _ HS (fun w S => S) ?_
       refine dk 19 F rfl NP HS (fun w S => (r_bd F (vs := [(0, .int .i64 x141), (1, .int .i64 x143), (2, .int .i64 (IntKind.i64.wrap (a0.getD (10 : Int).toNat 0))), (3, .int .i64 x145), (4, .slice A148 (((a0.take (IntKind.i64.wrap (14 + (IntKind.i64.wrap (a0.getD (13 : Int).toNat 0)))).toNat).drop ((14 : Int)).toNat)).length c149)]) (cs := [.int .i64 x141, .int .i64 x143, .int .i64 (IntKind.i64.wrap (a0.getD (10 : Int).toNat 0)), .int .i64 x145, .slice A148 (((a0.take (IntKind.i64.wrap (14 + (IntKind.i64.wrap (a0.getD (13 : Int).toNat 0)))).toNat).drop ((14 : Int)).toNat)).length c149]) rfl (fun w => by kernel_rfl))) fun a F => ?_
       refine d1 20 rfl (by kernel_rfl) (lal F H ti53 (cs := [.int .i64 0, .int .i64 0, .int .i64 0, .int .i64 0, .slice none 0 0]) rfl fun g150 w a H F => ?_)
       have HS := H.fx1.fx0
       refine kg _ HS (fun w S => S) ?_
       obtain ⟨_, hr, H⟩ := Hp.store (t := 53) (o := 0) (n := 5) (vs := [.int .i64 x141, .int .i64 x143, .int .i64 (IntKind.i64.wrap (a0.getD (10 : Int).toNat 0)), .int .i64 x145, .slice A148 (((a0.take (IntKind.i64.wrap (14 + (IntKind.i64.wrap (a0.getD (13 : Int).toNat 0)))).toNat).drop ((14 : Int)).toNat)).length c149]) (cs' := [.int .i64 x141, .int .i64 x143, .int .i64 (IntKind.i64.wrap (a0.getD (10 : Int).toNat 0)), .int .i64 x145, .slice A148 (((a0.take (IntKind.i64.wrap (14 + (IntKind.i64.wrap (a0.getD (13 : Int).toNat 0)))).toNat).drop ((14 : Int)).toNat)).length c149]) (H) (F.t 5 rfl) (F.t 43 rfl) rfl sz53 rfl (Nat.le_of_ble_eq_true rfl) rfl rfl
       refine d1 21 rfl (by kernel_rfl) (qn F (.inl rfl) (hr _ _ _ _) fun a F => ?_)
       have HS := H.fx1.fx0
       refine kg _ HS (fun w S => S) ?_
       refine ddone (by kernel_rfl) ?_
       replace F := F.only [5, 4, 2, 0] (l' := [(5, _), (4, _), (2, _), (0, _)]) rfl
       try dsimp only at k_21
       obtain rfl := Option.some.inj k_21
       exact ⟨_, _, _, _, rfl, g150, A148, c149, F.only [0, 2, 4, 5] rfl, H.px9.px8.px7.px6.px5.px4.px3.px2.px1.px0.f2.f1.f2⟩
      skip
      refine lal F H ti53 (cs := [.int .i64 0, .int .i64 0, .int .i64 0, .int .i64 0, .slice none 0 0]) rfl fun g151 w a H F => ?_
      have HS := H.fx1.fx0
      refine kg _ HS (fun w S => S) ?_
      replace H := Hp.litOwn (kd := kByte) (xs := []) (H.f2.f1.f2) (SayL.nil) (Nat.le_of_ble_eq_true rfl)
      obtain ⟨c152, k_21⟩ := guardO k_21
      obtain ⟨A153, c154, _, hr, H⟩ := Hp.appendRd (kd := kByte) (xs := []) (ys := ((a0.take (IntKind.i64.wrap (14 + (IntKind.i64.wrap (a0.getD (13 : Int).toNat 0)))).toNat).drop ((14 : Int)).toNat)) (H) 0 rfl (F.t 37 rfl) (F.t 41 rfl) Try.underlying29 ti5 rfl (by decide) (by decide) c152
      rw [List.nil_append] at hr H
      refine d1 18 rfl (by kernel_rfl) (qv F (hr _ _ _ _ _) fun a F => ?_)
      have HS := H.fx1.fx0
      refine kg _ HS (fun w S => S) ?_
      refine dk 19 F rfl NP HS (fun w S => (r_bd F (vs := [(0, .int .i64 x141), (1, .int .i64 x143), (2, .int .i64 (IntKind.i64.wrap (a0.getD (10 : Int).toNat 0))), (3, .int .i64 x145), (4, .slice A153 (((a0.take (IntKind.i64.wrap (14 + (IntKind.i64.wrap (a0.getD (13 : Int).toNat 0)))).toNat).drop ((14 : Int)).toNat)).length c154)]) (cs := [.int .i64 x141, .int .i64 x143, .int .i64 (IntKind.i64.wrap (a0.getD (10 : Int).toNat 0)), .int .i64 x145, .slice A153 (((a0.take (IntKind.i64.wrap (14 + (IntKind.i64.wrap (a0.getD (13 : Int).toNat 0)))).toNat).drop ((14 : Int)).toNat)).length c154]) rfl (fun w => by kernel_rfl))) fun a F => ?_
      obtain ⟨_, hr, H⟩ := Hp.store (t := 53) (o := 0) (n := 5) (vs := [.int .i64 x141, .int .i64 x143, .int .i64 (IntKind.i64.wrap (a0.getD (10 : Int).toNat 0)), .int .i64 x145, .slice A153 (((a0.take (IntKind.i64.wrap (14 + (IntKind.i64.wrap (a0.getD (13 : Int).toNat 0)))).toNat).drop ((14 : Int)).toNat)).length c154]) (cs' := [.int .i64 x141, .int .i64 x143, .int .i64 (IntKind.i64.wrap (a0.getD (10 : Int).toNat 0)), .int .i64 x145, .slice A153 (((a0.take (IntKind.i64.wrap (14 + (IntKind.i64.wrap (a0.getD (13 : Int).toNat 0)))).toNat).drop ((14 : Int)).toNat)).length c154]) (H.f2.f1.f2) (F.t 5 rfl) (F.t 43 rfl) rfl sz53 rfl (Nat.le_of_ble_eq_true rfl) rfl rfl
      refine d1 21 rfl (by kernel_rfl) (qn F (.inl rfl) (hr _ _ _ _) fun a F => ?_)
      have HS := H.fx1.fx0
      refine kg _ HS (fun w S => S) ?_
      refine ddone (by kernel_rfl) ?_
      replace F := F.only [5, 4, 2, 0] (l' := [(5, _), (4, _), (2, _), (0, _)]) rfl
      try dsimp only at k_21
      obtain rfl := Option.some.inj k_21
      exact ⟨_, _, _, _, rfl, g151, A153, c154, F.only [0, 2, 4, 5] rfl, H.px9.px8.px7.px6.px5.px4.px3.px2.px1.px0.f2.f1.f2⟩
     skip
     refine lal F H ti53 (cs := [.int .i64 0, .int .i64 0, .int .i64 0, .int .i64 0, .slice none 0 0]) rfl fun g155 w a H F => ?_
     have HS := H.fx1.fx0
     refine kg _ HS (fun w S => S) ?_
     obtain ⟨x156, e157, k_21⟩ := Option.bind_eq_some_iff.1 k_21
     try dsimp only at k_21
     refine d1 12 rfl (by kernel_rfl) (call F Try.func103 (ref16_Read_ok (H.p1) e157) rfl rfl fun v w hR a F => ?_)
     obtain ⟨rfl, H⟩ := hR
     have HS := H.fx1.fx0
     refine kg _ HS (fun w S => S) ?_
     replace H := Hp.litOwn (kd := kByte) (xs := []) (H.f2.f1.f2) (SayL.nil) (Nat.le_of_ble_eq_true rfl)
     obtain ⟨c158, k_21⟩ := guardO k_21
     obtain ⟨A159, c160, _, hr, H⟩ := Hp.appendRd (kd := kByte) (xs := []) (ys := ((a0.take (IntKind.i64.wrap (14 + (IntKind.i64.wrap (a0.getD (13 : Int).toNat 0)))).toNat).drop ((14 : Int)).toNat)) (H) 0 rfl (F.t 37 rfl) (F.t 41 rfl) Try.underlying29 ti5 rfl (by decide) (by decide) c158
     rw [List.nil_append] at hr H
     refine d1 18 rfl (by kernel_rfl) (qv F (hr _ _ _ _ _) fun a F => ?_)
     have HS := H.fx1.fx0
     refine kg _ HS (fun w S => S) ?_
     refine dk 19 F rfl NP HS (fun w S => (r_bd F (vs := [(0, .int .i64 x141), (1, .int .i64 x143), (2, .int .i64 (IntKind.i64.wrap (a0.getD (10 : Int).toNat 0))), (3, .int .i64 x156), (4, .slice A159 (((a0.take (IntKind.i64.wrap (14 + (IntKind.i64.wrap (a0.getD (13 : Int).toNat 0)))).toNat).drop ((14 : Int)).toNat)).length c160)]) (cs := [.int .i64 x141, .int .i64 x143, .int .i64 (IntKind.i64.wrap (a0.getD (10 : Int).toNat 0)), .int .i64 x156, .slice A159 (((a0.take (IntKind.i64.wrap (14 + (IntKind.i64.wrap (a0.getD (13 : Int).toNat 0)))).toNat).drop ((14 : Int)).toNat)).length c160]) rfl (fun w => by kernel_rfl))) fun a F => ?_
     obtain ⟨_, hr, H⟩ := Hp.store (t := 53) (o := 0) (n := 5) (vs := [.int .i64 x141, .int .i64 x143, .int .i64 (IntKind.i64.wrap (a0.getD (10 : Int).toNat 0)), .int .i64 x156, .slice A159 (((a0.take (IntKind.i64.wrap (14 + (IntKind.i64.wrap (a0.getD (13 : Int).toNat 0)))).toNat).drop ((14 : Int)).toNat)).length c160]) (cs' := [.int .i64 x141, .int .i64 x143, .int .i64 (IntKind.i64.wrap (a0.getD (10 : Int).toNat 0)), .int .i64 x156, .slice A159 (((a0.take (IntKind.i64.wrap (14 + (IntKind.i64.wrap (a0.getD (13 : Int).toNat 0)))).toNat).drop ((14 : Int)).toNat)).length c160]) (H.f2.f1.f2) (F.t 5 rfl) (F.t 43 rfl) rfl sz53 rfl (Nat.le_of_ble_eq_true rfl) rfl rfl
     refine d1 21 rfl (by kernel_rfl) (qn F (.inl rfl) (hr _ _ _ _) fun a F => ?_)
     have HS := H.fx1.fx0
     refine kg _ HS (fun w S => S) ?_
     refine ddone (by kernel_rfl) ?_
     replace F := F.only [5, 4, 2, 0] (l' := [(5, _), (4, _), (2, _), (0, _)]) rfl
     try dsimp only at k_21
     obtain rfl := Option.some.inj k_21
     exact ⟨_, _, _, _, rfl, g155, A159, c160, F.only [0, 2, 4, 5] rfl, H.px9.px8.px7.px6.px5.px4.px3.px2.px1.px0.f2.f1.f2⟩
    skip
    refine lal F H ti53 (cs := [.int .i64 0, .int .i64 0, .int .i64 0, .int .i64 0, .slice none 0 0]) rfl fun g161 w a H F => ?_
    have HS := H.fx1.fx0
    refine kg _ HS (fun w S => S) ?_
    obtain ⟨x162, e163, k_21⟩ := Option.bind_eq_some_iff.1 k_21
    try dsimp only at k_21
    refine d1 5 rfl (by kernel_rfl) (call F Try.func103 (ref16_Read_ok (H.p4) e163) rfl rfl fun v w hR a F => ?_)
    obtain ⟨rfl, H⟩ := hR
    have HS := H.fx1.fx0
    refine kg _ HS (fun w S => S) ?_
    obtain ⟨x164, e165, k_21⟩ := Option.bind_eq_some_iff.1 k_21
    try dsimp only at k_21
    refine d1 12 rfl (by kernel_rfl) (call F Try.func103 (ref16_Read_ok (H.p1) e165) rfl rfl fun v w hR a F => ?_)
    obtain ⟨rfl, H⟩ := hR
    have HS := H.fx1.fx0
    refine kg _ HS (fun w S => S) ?_
    replace H := Hp.litOwn (kd := kByte) (xs := []) (H.f2.f1.f2) (SayL.nil) (Nat.le_of_ble_eq_true rfl)
    obtain ⟨c166, k_21⟩ := guardO k_21
    obtain ⟨A167, c168, _, hr, H⟩ := Hp.appendRd (kd := kByte) (xs := []) (ys := ((a0.take (IntKind.i64.wrap (14 + (IntKind.i64.wrap (a0.getD (13 : Int).toNat 0)))).toNat).drop ((14 : Int)).toNat)) (H) 0 rfl (F.t 37 rfl) (F.t 41 rfl) Try.underlying29 ti5 rfl (by decide) (by decide) c166
    rw [List.nil_append] at hr H
    refine d1 18 rfl (by kernel_rfl) (qv F (hr _ _ _ _ _) fun a F => ?_)
    have HS := H.fx1.fx0
    refine kg _ HS (fun w S => S) ?_
    refine dk 19 F rfl NP HS (fun w S => (r_bd F (vs := [(0, .int .i64 x141), (1, .int .i64 x162), (2, .int .i64 (IntKind.i64.wrap (a0.getD (10 : Int).toNat 0))), (3, .int .i64 x164), (4, .slice A167 (((a0.take (IntKind.i64.wrap (14 + (IntKind.i64.wrap (a0.getD (13 : Int).toNat 0)))).toNat).drop ((14 : Int)).toNat)).length c168)]) (cs := [.int .i64 x141, .int .i64 x162, .int .i64 (IntKind.i64.wrap (a0.getD (10 : Int).toNat 0)), .int .i64 x164, .slice A167 (((a0.take (IntKind.i64.wrap (14 + (IntKind.i64.wrap (a0.getD (13 : Int).toNat 0)))).toNat).drop ((14 : Int)).toNat)).length c168]) rfl (fun w => by kernel_rfl))) fun a F => ?_
    obtain ⟨_, hr, H⟩ := Hp.store (t := 53) (o := 0) (n := 5) (vs := [.int .i64 x141, .int .i64 x162, .int .i64 (IntKind.i64.wrap (a0.getD (10 : Int).toNat 0)), .int .i64 x164, .slice A167 (((a0.take (IntKind.i64.wrap (14 + (IntKind.i64.wrap (a0.getD (13 : Int).toNat 0)))).toNat).drop ((14 : Int)).toNat)).length c168]) (cs' := [.int .i64 x141, .int .i64 x162, .int .i64 (IntKind.i64.wrap (a0.getD (10 : Int).toNat 0)), .int .i64 x164, .slice A167 (((a0.take (IntKind.i64.wrap (14 + (IntKind.i64.wrap (a0.getD (13 : Int).toNat 0)))).toNat).drop ((14 : Int)).toNat)).length c168]) (H.f2.f1.f2) (F.t 5 rfl) (F.t 43 rfl) rfl sz53 rfl (Nat.le_of_ble_eq_true rfl) rfl rfl
    refine d1 21 rfl (by kernel_rfl) (qn F (.inl rfl) (hr _ _ _ _) fun a F => ?_)
    have HS := H.fx1.fx0
    refine kg _ HS (fun w S => S) ?_
    refine ddone (by kernel_rfl) ?_
    replace F := F.only [5, 4, 2, 0] (l' := [(5, _), (4, _), (2, _), (0, _)]) rfl
    try dsimp only at k_21
    obtain rfl := Option.some.inj k_21
    exact ⟨_, _, _, _, rfl, g161, A167, c168, F.only [0, 2, 4, 5] rfl, H.px9.px8.px7.px6.px5.px4.px3.px2.px1.px0.f2.f1.f2⟩
   skip
   refine lal F H ti53 (cs := [.int .i64 0, .int .i64 0, .int .i64 0, .int .i64 0, .slice none 0 0]) rfl fun g169 w a H F => ?_
   have HS := H.fx1.fx0
   refine kg _ HS (fun w S => S) ?_
   obtain ⟨x170, e171, k_21⟩ := Option.bind_eq_some_iff.1 k_21
   try dsimp only at k_21
   refine d1 2 rfl (by kernel_rfl) (call F Try.func103 (ref16_Read_ok (H.p5) e171) rfl rfl fun v w hR a F => ?_)
   obtain ⟨rfl, H⟩ := hR
   have HS := H.fx1.fx0
   refine kg _ HS (fun w S => S) ?_
   obtain ⟨x172, e173, k_21⟩ := Option.bind_eq_some_iff.1 k_21
   try dsimp only at k_21
   refine d1 5 rfl (by kernel_rfl) (call F Try.func103 (ref16_Read_ok (H.p4) e173) rfl rfl fun v w hR a F => ?_)
   obtain ⟨rfl, H⟩ := hR
   have HS := H.fx1.fx0
   refine kg _ HS (fun w S => S) ?_
   obtain ⟨x174, e175, k_21⟩ := Option.bind_eq_some_iff.1 k_21
   try dsimp only at k_21
   refine d1 12 rfl (by kernel_rfl) (call F Try.func103 (ref16_Read_ok (H.p1) e175) rfl rfl fun v w hR a F => ?_)
   obtain ⟨rfl, H⟩ := hR
   have HS := H.fx1.fx0
   refine kg _ HS (fun w S => S) ?_
   replace H := Hp.litOwn (kd := kByte) (xs := []) (H.f2.f1.f2) (SayL.nil) (Nat.le_of_ble_eq_true rfl)
   obtain ⟨c176, k_21⟩ := guardO k_21
   obtain ⟨A177, c178, _, hr, H⟩ := Hp.appendRd (kd := kByte) (xs := []) (ys := ((a0.take (IntKind.i64.wrap (14 + (IntKind.i64.wrap (a0.getD (13 : Int).toNat 0)))).toNat).drop ((14 : Int)).toNat)) (H) 0 rfl (F.t 37 rfl) (F.t 41 rfl) Try.underlying29 ti5 rfl (by decide) (by decide) c176
   rw [List.nil_append] at hr H
   refine d1 18 rfl (by kernel_rfl) (qv F (hr _ _ _ _ _) fun a F => ?_)
   have HS := H.fx1.fx0
   refine kg _ HS (fun w S => S) ?_
   refine dk 19 F rfl NP HS (fun w S => (r_bd F (vs := [(0, .int .i64 x170), (1, .int .i64 x172), (2, .int .i64 (IntKind.i64.wrap (a0.getD (10 : Int).toNat 0))), (3, .int .i64 x174), (4, .slice A177 (((a0.take (IntKind.i64.wrap (14 + (IntKind.i64.wrap (a0.getD (13 : Int).toNat 0)))).toNat).drop ((14 : Int)).toNat)).length c178)]) (cs := [.int .i64 x170, .int .i64 x172, .int .i64 (IntKind.i64.wrap (a0.getD (10 : Int).toNat 0)), .int .i64 x174, .slice A177 (((a0.take (IntKind.i64.wrap (14 + (IntKind.i64.wrap (a0.getD (13 : Int).toNat 0)))).toNat).drop ((14 : Int)).toNat)).length c178]) rfl (fun w => by kernel_rfl))) fun a F => ?_
   obtain ⟨_, hr, H⟩ := Hp.store (t := 53) (o := 0) (n := 5) (vs := [.int .i64 x170, .int .i64 x172, .int .i64 (IntKind.i64.wrap (a0.getD (10 : Int).toNat 0)), .int .i64 x174, .slice A177 (((a0.take (IntKind.i64.wrap (14 + (IntKind.i64.wrap (a0.getD (13 : Int).toNat 0)))).toNat).drop ((14 : Int)).toNat)).length c178]) (cs' := [.int .i64 x170, .int .i64 x172, .int .i64 (IntKind.i64.wrap (a0.getD (10 : Int).toNat 0)), .int .i64 x174, .slice A177 (((a0.take (IntKind.i64.wrap (14 + (IntKind.i64.wrap (a0.getD (13 : Int).toNat 0)))).toNat).drop ((14 : Int)).toNat)).length c178]) (H.f2.f1.f2) (F.t 5 rfl) (F.t 43 rfl) rfl sz53 rfl (Nat.le_of_ble_eq_true rfl) rfl rfl
   refine d1 21 rfl (by kernel_rfl) (qn F (.inl rfl) (hr _ _ _ _) fun a F => ?_)
   have HS := H.fx1.fx0
   refine kg _ HS (fun w S => S) ?_
   refine ddone (by kernel_rfl) ?_
   replace F := F.only [5, 4, 2, 0] (l' := [(5, _), (4, _), (2, _), (0, _)]) rfl
   try dsimp only at k_21
   obtain rfl := Option.some.inj k_21
   exact ⟨_, _, _, _, rfl, g169, A177, c178, F.only [0, 2, 4, 5] rfl, H.px9.px8.px7.px6.px5.px4.px3.px2.px1.px0.f2.f1.f2⟩
  skip
  refine lal F H ti53 (cs := [.int .i64 0, .int .i64 0, .int .i64 0, .int .i64 0, .slice none 0 0]) rfl fun g179 w a H F => ?_
  have HS := H.fx0
  refine kg _ HS (fun w S => S) ?_
  refine d2 2 13 rfl rfl (by kernel_rfl) ?_ ?_
  ·skip
   obtain ⟨x180, e181, k_21⟩ := Option.bind_eq_some_iff.1 k_21
   try dsimp only at k_21
   refine call F Try.func103 (ref16_Read_ok (H.p5) e181) rfl rfl fun v w hR a F => ?_
   obtain ⟨rfl, H⟩ := hR
   have HS := H.fx0
   refine kg _ HS (fun w S => S) ?_
   refine d2 5 13 rfl rfl (by kernel_rfl) ?_ ?_
   ·skip
    obtain ⟨x182, e183, k_21⟩ := Option.bind_eq_some_iff.1 k_21
    try dsimp only at k_21
    refine call F Try.func103 (ref16_Read_ok (H.p4) e183) rfl rfl fun v w hR a F => ?_
    obtain ⟨rfl, H⟩ := hR
    have HS := H.fx0
    refine kg _ HS (fun w S => S) ?_
    refine d2 12 13 rfl rfl (by kernel_rfl) ?_ ?_
    ·skip
     obtain ⟨x184, e185, k_21⟩ := Option.bind_eq_some_iff.1 k_21
     try dsimp only at k_21
     refine call F Try.func103 (ref16_Read_ok (H.p1) e185) rfl rfl fun v w hR a F => ?_
     obtain ⟨rfl, H⟩ := hR
     have HS := H.fx0
     refine kg _ HS (fun w S => S) ?_
     refine d1 13 rfl (by kernel_rfl) (lbs F H (e := 5) (vs := []) (cs := []) rfl (fun w => by kernel_rfl) fun g186 w a H F => ?_)
     have HS := H.fx1.fx0
     refine kg _ HS (fun w S => S) ?_
     replace H := Hp.litOwn (kd := kByte) (xs := []) (H) (SayL.nil) (Nat.le_of_ble_eq_true rfl)
     obtain ⟨c187, k_21⟩ := guardO k_21
     obtain ⟨A188, c189, _, hr, H⟩ := Hp.appendRd (kd := kByte) (xs := []) (ys := ((a0.take (IntKind.i64.wrap (14 + (IntKind.i64.wrap (a0.getD (13 : Int).toNat 0)))).toNat).drop ((14 : Int)).toNat)) (H) 0 rfl (F.t 37 rfl) (F.t 41 rfl) Try.underlying29 ti5 rfl (by decide) (by decide) c187
     rw [List.nil_append] at hr H
     refine d1 18 rfl (by kernel_rfl) (qv F (hr _ _ _ _ _) fun a F => ?_)
     have HS := H.fx1.fx0
     refine kg _ HS (fun w S => S) ?_
     refine dk 19 F rfl NP HS (fun w S => (r_bd F (vs := [(0, .int .i64 x180), (1, .int .i64 x182), (2, .int .i64 (IntKind.i64.wrap (a0.getD (10 : Int).toNat 0))), (3, .int .i64 x184), (4, .slice A188 (((a0.take (IntKind.i64.wrap (14 + (IntKind.i64.wrap (a0.getD (13 : Int).toNat 0)))).toNat).drop ((14 : Int)).toNat)).length c189)]) (cs := [.int .i64 x180, .int .i64 x182, .int .i64 (IntKind.i64.wrap (a0.getD (10 : Int).toNat 0)), .int .i64 x184, .slice A188 (((a0.take (IntKind.i64.wrap (14 + (IntKind.i64.wrap (a0.getD (13 : Int).toNat 0)))).toNat).drop ((14 : Int)).toNat)).length c189]) rfl (fun w => by kernel_rfl))) fun a F => ?_
     obtain ⟨_, hr, H⟩ := Hp.store (t := 53) (o := 0) (n := 5) (vs := [.int .i64 x180, .int .i64 x182, .int .i64 (IntKind.i64.wrap (a0.getD (10 : Int).toNat 0)), .int .i64 x184, .slice A188 (((a0.take (IntKind.i64.wrap (14 + (IntKind.i64.wrap (a0.getD (13 : Int).toNat 0)))).toNat).drop ((14 : Int)).toNat)).length c189]) (cs' := [.int .i64 x180, .int .i64 x182, .int .i64 (IntKind.i64.wrap (a0.getD (10 : Int).toNat 0)), .int .i64 x184, .slice A188 (((a0.take (IntKind.i64.wrap (14 + (IntKind.i64.wrap (a0.getD (13 : Int).toNat 0)))).toNat).drop ((14 : Int)).toNat)).length c189]) (H.f2.f1.f2) (F.t 5 rfl) (F.t 43 rfl) rfl sz53 rfl (Nat.le_of_ble_eq_true rfl) rfl rfl
     refine d1 21 rfl (by kernel_rfl) (qn F (.inl rfl) (hr _ _ _ _) fun a F => ?_)
     have HS := H.fx1.fx0
     refine kg _ HS (fun w S => S) ?_
     refine ddone (by kernel_rfl) ?_
     replace F := F.only [5, 4, 2, 0] (l' := [(5, _), (4, _), (2, _), (0, _)]) rfl
     try dsimp only at k_21
     obtain rfl := Option.some.inj k_21
     exact ⟨_, _, _, _, rfl, g179, A188, c189, F.only [0, 2, 4, 5] rfl, H.px9.px8.px7.px6.px5.px4.px3.px2.px1.px0.f2.f1.f2⟩
    skip
    refine lbs F H (e := 5) (vs := []) (cs := []) rfl (fun w => by kernel_rfl) fun g190 w a H F => ?_
    have HS := H.fx1.fx0
    refine kg _ HS (fun w S => S) ?_
    obtain ⟨x191, e192, k_21⟩ := Option.bind_eq_some_iff.1 k_21
    try dsimp only at k_21
    refine d1 12 rfl (by kernel_rfl) (call F Try.func103 (ref16_Read_ok (H.p1) e192) rfl rfl fun v w hR a F => ?_)
    obtain ⟨rfl, H⟩ := hR
    have HS := H.fx1.fx0
    refine kg _ HS (fun w S => S) ?_
    replace H := Hp.litOwn (kd := kByte) (xs := []) (H) (SayL.nil) (Nat.le_of_ble_eq_true rfl)
    obtain ⟨c193, k_21⟩ := guardO k_21
    obtain ⟨A194, c195, _, hr, H⟩ := Hp.appendRd (kd := kByte) (xs := []) (ys := ((a0.take (IntKind.i64.wrap (14 + (IntKind.i64.wrap (a0.getD (13 : Int).toNat 0)))).toNat).drop ((14 : Int)).toNat)) (H) 0 rfl (F.t 37 rfl) (F.t 41 rfl) Try.underlying29 ti5 rfl (by decide) (by decide) c193
    rw [List.nil_append] at hr H
    refine d1 18 rfl (by kernel_rfl) (qv F (hr _ _ _ _ _) fun a F => ?_)
    have HS := H.fx1.fx0
    refine kg _ HS (fun w S => S) ?_
    refine dk 19 F rfl NP HS (fun w S => (r_bd F (vs := [(0, .int .i64 x180), (1, .int .i64 x182), (2, .int .i64 (IntKind.i64.wrap (a0.getD (10 : Int).toNat 0))), (3, .int .i64 x191), (4, .slice A194 (((a0.take (IntKind.i64.wrap (14 + (IntKind.i64.wrap (a0.getD (13 : Int).toNat 0)))).toNat).drop ((14 : Int)).toNat)).length c195)]) (cs := [.int .i64 x180, .int .i64 x182, .int .i64 (IntKind.i64.wrap (a0.getD (10 : Int).toNat 0)), .int .i64 x191, .slice A194 (((a0.take (IntKind.i64.wrap (14 + (IntKind.i64.wrap (a0.getD (13 : Int).toNat 0)))).toNat).drop ((14 : Int)).toNat)).length c195]) rfl (fun w => by kernel_rfl))) fun a F => ?_
    obtain ⟨_, hr, H⟩ := Hp.store (t := 53) (o := 0) (n := 5) (vs := [.int .i64 x180, .int .i64 x182, .int .i64 (IntKind.i64.wrap (a0.getD (10 : Int).toNat 0)), .int .i64 x191, .slice A194 (((a0.take (IntKind.i64.wrap (14 + (IntKind.i64.wrap (a0.getD (13 : Int).toNat 0)))).toNat).drop ((14 : Int)).toNat)).length c195]) (cs' := [.int .i64 x180, .int .i64 x182, .int .i64 (IntKind.i64.wrap (a0.getD (10 : Int).toNat 0)), .int .i64 x191, .slice A194 (((a0.take (IntKind.i64.wrap (14 + (IntKind.i64.wrap (a0.getD (13 : Int).toNat 0)))).toNat).drop ((14 : Int)).toNat)).length c195]) (H.f2.f1.f2) (F.t 5 rfl) (F.t 43 rfl) rfl sz53 rfl (Nat.le_of_ble_eq_true rfl) rfl rfl
    refine d1 21 rfl (by kernel_rfl) (qn F (.inl rfl) (hr _ _ _ _) fun a F => ?_)
    have HS := H.fx1.fx0
    refine kg _ HS (fun w S => S) ?_
    refine ddone (by kernel_rfl) ?_
    replace F := F.only [5, 4, 2, 0] (l' := [(5, _), (4, _), (2, _), (0, _)]) rfl
    try dsimp only at k_21
    obtain rfl := Option.some.inj k_21
    exact ⟨_, _, _, _, rfl, g179, A194, c195, F.only [0, 2, 4, 5] rfl, H.px9.px8.px7.px6.px5.px4.px3.px2.px1.px0.f2.f1.f2⟩
   skip
   refine lbs F H (e := 5) (vs := []) (cs := []) rfl (fun w => by kernel_rfl) fun g196 w a H F => ?_
   have HS := H.fx1.fx0
   refine kg _ HS (fun w S => S) ?_
   obtain ⟨x197, e198, k_21⟩ := Option.bind_eq_some_iff.1 k_21
   try dsimp only at k_21
   refine d1 5 rfl (by kernel_rfl) (call F Try.func103 (ref16_Read_ok (H.p4) e198) rfl rfl fun v w hR a F => ?_)
   obtain ⟨rfl, H⟩ := hR
   have HS := H.fx1.fx0
   refine kg _ HS (fun w S => S) ?_
   obtain ⟨x199, e200, k_21⟩ := Option.bind_eq_some_iff.1 k_21
   try dsimp only at k_21
   refine d1 12 rfl (by kernel_rfl) (call F Try.func103 (ref16_Read_ok (H.p1) e200) rfl rfl fun v w hR a F => ?_)
   obtain ⟨rfl, H⟩ := hR
   have HS := H.fx1.fx0
   refine kg _ HS (fun w S => S) ?_
   replace H := Hp.litOwn (kd := kByte) (xs := []) (H) (SayL.nil) (Nat.le_of_ble_eq_true rfl)
   obtain ⟨c201, k_21⟩ := guardO k_21
   obtain ⟨A202, c203, _, hr, H⟩ := Hp.appendRd (kd := kByte) (xs := []) (ys := ((a0.take (IntKind.i64.wrap (14 + (IntKind.i64.wrap (a0.getD (13 : Int).toNat 0)))).toNat).drop ((14 : Int)).toNat)) (H) 0 rfl (F.t 37 rfl) (F.t 41 rfl) Try.underlying29 ti5 rfl (by decide) (by decide) c201
   rw [List.nil_append] at hr H
   refine d1 18 rfl (by kernel_rfl) (qv F (hr _ _ _ _ _) fun a F => ?_)
   have HS := H.fx1.fx0
   refine kg _ HS (fun w S => S) ?_
   refine dk 19 F rfl NP HS (fun w S => (r_bd F (vs := [(0, .int .i64 x180), (1, .int .i64 x197), (2, .int .i64 (IntKind.i64.wrap (a0.getD (10 : Int).toNat 0))), (3, .int .i64 x199), (4, .slice A202 (((a0.take (IntKind.i64.wrap (14 + (IntKind.i64.wrap (a0.getD (13 : Int).toNat 0)))).toNat).drop ((14 : Int)).toNat)).length c203)]) (cs := [.int .i64 x180, .int .i64 x197, .int .i64 (IntKind.i64.wrap (a0.getD (10 : Int).toNat 0)), .int .i64 x199, .slice A202 (((a0.take (IntKind.i64.wrap (14 + (IntKind.i64.wrap (a0.getD (13 : Int).toNat 0)))).toNat).drop ((14 : Int)).toNat)).length c203]) rfl (fun w => by kernel_rfl))) fun a F => ?_
   obtain ⟨_, hr, H⟩ := Hp.store (t := 53) (o := 0) (n := 5) (vs := [.int .i64 x180, .int .i64 x197, .int .i64 (IntKind.i64.wrap (a0.getD (10 : Int).toNat 0)), .int .i64 x199, .slice A202 (((a0.take (IntKind.i64.wrap (14 + (IntKind.i64.wrap (a0.getD (13 : Int).toNat 0)))).toNat).drop ((14 : Int)).toNat)).length c203]) (cs' := [.int .i64 x180, .int .i64 x197, .int .i64 (IntKind.i64.wrap (a0.getD (10 : Int).toNat 0)), .int .i64 x199, .slice A202 (((a0.take (IntKind.i64.wrap (14 + (IntKind.i64.wrap (a0.getD (13 : Int).toNat 0)))).toNat).drop ((14 : Int)).toNat)).length c203]) (H.f2.f1.f2) (F.t 5 rfl) (F.t 43 rfl) rfl sz53 rfl (Nat.le_of_ble_eq_true rfl) rfl rfl
   refine d1 21 rfl (by kernel_rfl) (qn F (.inl rfl) (hr _ _ _ _) fun a F => ?_)
   have HS := H.fx1.fx0
   refine kg _ HS (fun w S => S) ?_
   refine ddone (by kernel_rfl) ?_
   replace F := F.only [5, 4, 2, 0] (l' := [(5, _), (4, _), (2, _), (0, _)]) rfl
   try dsimp only at k_21
   obtain rfl := Option.some.inj k_21
   exact ⟨_, _, _, _, rfl, g179, A202, c203, F.only [0, 2, 4, 5] rfl, H.px9.px8.px7.px6.px5.px4.px3.px2.px1.px0.f2.f1.f2⟩
  skip
  refine lbs F H (e := 5) (vs := []) (cs := []) rfl (fun w => by kernel_rfl) fun g204 w a H F => ?_
  have HS := H.fx1.fx0
  refine kg _ HS (fun w S => S) ?_
  obtain ⟨x205, e206, k_21⟩ := Option.bind_eq_some_iff.1 k_21
  try dsimp only at k_21
  refine d1 2 rfl (by kernel_rfl) (call F Try.func103 (ref16_Read_ok (H.p5) e206) rfl rfl fun v w hR a F => ?_)
  obtain ⟨rfl, H⟩ := hR
  have HS := H.fx1.fx0
  refine kg _ HS (fun w S => S) ?_
  obtain ⟨x207, e208, k_21⟩ := Option.bind_eq_some_iff.1 k_21
  try dsimp only at k_21
  refine d1 5 rfl (by kernel_rfl) (call F Try.func103 (ref16_Read_ok (H.p4) e208) rfl rfl fun v w hR a F => ?_)
  obtain ⟨rfl, H⟩ := hR
  have HS := H.fx1.fx0
  refine kg _ HS (fun w S => S) ?_
  obtain ⟨x209, e210, k_21⟩ := Option.bind_eq_some_iff.1 k_21
  try dsimp only at k_21
  refine d1 12 rfl (by kernel_rfl) (call F Try.func103 (ref16_Read_ok (H.p1) e210) rfl rfl fun v w hR a F => ?_)
  obtain ⟨rfl, H⟩ := hR
  have HS := H.fx1.fx0
  refine kg _ HS (fun w S => S) ?_
  replace H := Hp.litOwn (kd := kByte) (xs := []) (H) (SayL.nil) (Nat.le_of_ble_eq_true rfl)
  obtain ⟨c211, k_21⟩ := guardO k_21
  obtain ⟨A212, c213, _, hr, H⟩ := Hp.appendRd (kd := kByte) (xs := []) (ys := ((a0.take (IntKind.i64.wrap (14 + (IntKind.i64.wrap (a0.getD (13 : Int).toNat 0)))).toNat).drop ((14 : Int)).toNat)) (H) 0 rfl (F.t 37 rfl) (F.t 41 rfl) Try.underlying29 ti5 rfl (by decide) (by decide) c211
  rw [List.nil_append] at hr H
  refine d1 18 rfl (by kernel_rfl) (qv F (hr _ _ _ _ _) fun a F => ?_)
  have HS := H.fx1.fx0
  refine kg _ HS (fun w S => S) ?_
  refine dk 19 F rfl NP HS (fun w S => (r_bd F (vs := [(0, .int .i64 x205), (1, .int .i64 x207), (2, .int .i64 (IntKind.i64.wrap (a0.getD (10 : Int).toNat 0))), (3, .int .i64 x209), (4, .slice A212 (((a0.take (IntKind.i64.wrap (14 + (IntKind.i64.wrap (a0.getD (13 : Int).toNat 0)))).toNat).drop ((14 : Int)).toNat)).length c213)]) (cs := [.int .i64 x205, .int .i64 x207, .int .i64 (IntKind.i64.wrap (a0.getD (10 : Int).toNat 0)), .int .i64 x209, .slice A212 (((a0.take (IntKind.i64.wrap (14 + (IntKind.i64.wrap (a0.getD (13 : Int).toNat 0)))).toNat).drop ((14 : Int)).toNat)).length c213]) rfl (fun w => by kernel_rfl))) fun a F => ?_
  obtain ⟨_, hr, H⟩ := Hp.store (t := 53) (o := 0) (n := 5) (vs := [.int .i64 x205, .int .i64 x207, .int .i64 (IntKind.i64.wrap (a0.getD (10 : Int).toNat 0)), .int .i64 x209, .slice A212 (((a0.take (IntKind.i64.wrap (14 + (IntKind.i64.wrap (a0.getD (13 : Int).toNat 0)))).toNat).drop ((14 : Int)).toNat)).length c213]) (cs' := [.int .i64 x205, .int .i64 x207, .int .i64 (IntKind.i64.wrap (a0.getD (10 : Int).toNat 0)), .int .i64 x209, .slice A212 (((a0.take (IntKind.i64.wrap (14 + (IntKind.i64.wrap (a0.getD (13 : Int).toNat 0)))).toNat).drop ((14 : Int)).toNat)).length c213]) (H.f2.f1.f2) (F.t 5 rfl) (F.t 43 rfl) rfl sz53 rfl (Nat.le_of_ble_eq_true rfl) rfl rfl
  refine d1 21 rfl (by kernel_rfl) (qn F (.inl rfl) (hr _ _ _ _) fun a F => ?_)
  have HS := H.fx1.fx0
  refine kg _ HS (fun w S => S) ?_
  refine ddone (by kernel_rfl) ?_
  replace F := F.only [5, 4, 2, 0] (l' := [(5, _), (4, _), (2, _), (0, _)]) rfl
  try dsimp only at k_21
  obtain rfl := Option.some.inj k_21
  exact ⟨_, _, _, _, rfl, g179, A212, c213, F.only [0, 2, 4, 5] rfl, H.px9.px8.px7.px6.px5.px4.px3.px2.px1.px0.f2.f1.f2⟩
 rintro a w ⟨x16, x17, x18, x19, rfl, g15, A20, c21, F, H⟩
 try dsimp only at h F H
 refine wp_seq ?_
 refine rg ?_
 refine mv F rfl fun a F => ?_
 refine qw F (r_add (F.k (.int .i64 14)) (F.t 44 rfl)) fun a F => ?_
 refine as_ F rfl fun a F => ?_
 refine rgend ?_
 obtain ⟨o_214, k_214, h⟩ := Option.bind_eq_some_iff.1 h
 refine cut (fun a w => Sum.inl () = o_214 ∧ Fr 63 [] [(2, pt g1), (5, pt g15)] a ∧ Hp w0 ps (own kByte 5 A20 c21 x19 :: cel g15 [.int .i64 x16, .int .i64 x17, .int .i64 (IntKind.i64.wrap (a0.getD (10 : Int).toNat 0)), .int .i64 x18, .slice A20 x19.length c21] 53 :: cel g1 [.int .i64 0, .int .i64 0, .int .i64 0, .int .i64 0, .slice none 0 0] 53 :: fs) w) (wp_block ?_) ?_
 ·refine wloop (ref16_Get_b0 a0) (fun (s : Int) a w => Fr 63 [] [(0, .slice A0_ a0.length c0_), (2, pt g1), (5, pt g15), (6, .int .i64 s)] a ∧ Hp w0 (rd kByte A0_ c0_ a0 :: ps) (own kByte 5 A20 c21 x19 :: cel g15 [.int .i64 x16, .int .i64 x17, .int .i64 (IntKind.i64.wrap (a0.getD (10 : Int).toNat 0)), .int .i64 x18, .slice A20 x19.length c21] 53 :: cel g1 [.int .i64 0, .int .i64 0, .int .i64 0, .int .i64 0, .slice none 0 0] 53 :: fs) w) k_214 ⟨F.only [0, 2, 5, 6] rfl, H⟩ ?_
  rintro x214 a w q_214 j_214 u_214 ⟨F, H⟩
  unfold ref16_Get_b0 at j_214
  try dsimp only at j_214 F H
  refine wp_seq ?_
  refine rg ?_
  iterate 2 refine mv F rfl fun a F => ?_
  refine qw F (r_len (F.t 47 rfl) Try.underlying29) fun a F => ?_
  refine qw F (r_lt (F.t 46 rfl) (F.t 48 rfl)) fun a F => ?_
  refine rgend ?_
  by_cases c216 : x214 < (a0.length : Int)
  ·rw [if_pos c216] at j_214
   rw [decide_eq_true c216] at F
   refine wp_cond_true (F.ev rfl) ?_
   refine wp_skip ?_
   refine wp_seq ?_
   refine wp_block ?_
   refine rg ?_
   iterate 2 refine mv F rfl fun a F => ?_
   obtain ⟨c217, j_214⟩ := guardO j_214
   obtain ⟨g218, o219, s220, hr, H⟩ := H.ix 0 0 rfl (F.t 52 rfl) (F.t 53 rfl) Try.underlying29 sz5 (by decide) c217.1 c217.2
   obtain ⟨rfl, hr221⟩ := H.says_byte 1 rfl
   refine qw F (hr _ _ _ _ _ _) fun a F => ?_
   refine qw F (r_ld (F.t 54 rfl) (range_cell (j := 0) (H.range 0 rfl) rfl) one5) fun a F => ?_
   refine qw F (r_ne (F.t 55 rfl) (F.k (.int .u8 0))) fun a F => ?_
   refine rgend ?_
   replace F := F.only [56, 0, 2, 5, 6] (l' := [(56, _), (0, _), (2, _), (5, _), (6, _)]) rfl
   by_cases c222 : (a0.getD (x214 : Int).toNat 0) ≠ 0
   ·rw [if_pos c222] at j_214
    rw [decide_eq_true c222] at F
    refine wp_cond_true (F.ev rfl) ?_
    refine rg ?_
    refine ls (lbd F (vs := []) (cs := [.int .i64 0, .int .i64 0, .int .i64 0, .int .i64 0, .slice none 0 0]) rfl (fun w => by kernel_rfl) fun a F => ?_)
    refine stF F [.int .i64 0, .int .i64 0, .int .i64 0, .int .i64 0, .slice none 0 0] H.f1.f1.f2 rfl rfl sz53 fun w a H F => ?_
    refine as_ F (v := .bool false) rfl fun a F => ?_
    refine rgend ?_
    replace F := F.only [3, 2] (l' := [(3, _), (2, _)]) rfl
    refine wp_ret ?_
    replace H := H.nilRd kByte
    try dsimp only at j_214
    obtain rfl := Option.some.inj j_214
    obtain rfl := u_214 _ rfl
    try dsimp only at h
    obtain ⟨rfl, rfl⟩ := Prod.mk.inj (Option.some.inj h)
    exact RET _ _ (retC2 F rfl rfl rfl (ldvA (cel_range (o := 0) (n := 5) (vs := [.int .i64 0, .int .i64 0, .int .i64 0, .int .i64 0, .slice none 0 0]) (H.cell 0 rfl) rfl) agg53 rfl) ⟨_, rfl, none, 0, rfl, H.px3.px2.px1.fx2.fx1.fx0⟩)
   rw [if_neg c222] at j_214
   rw [decide_eq_false c222] at F
   refine wp_cond_false (F.ev rfl) ?_
   refine wp_skip ?_
   refine wp_region_lit ?_
   refine mv F rfl fun a F => ?_
   refine qw F (r_add (F.t 50 rfl) (F.k (.int .i64 1))) fun a F => ?_
   refine as_ F rfl fun a F => ?_
   refine wpList_nil ?_
   replace F := F.only [6, 0, 2, 5] (l' := [(6, _), (0, _), (2, _), (5, _)]) rfl
   try dsimp only at j_214
   obtain rfl := Option.some.inj j_214
   exact ⟨_, rfl, F.only [0, 2, 5, 6] rfl, H.px1.px0⟩
  rw [if_neg c216] at j_214
  rw [decide_eq_false c216] at F
  refine wp_cond_false (F.ev rfl) ?_
  refine wp_exit ?_
  try dsimp only at j_214
  obtain rfl := Option.some.inj j_214
  obtain rfl := u_214 _ rfl
  repeat (with_reducible refine exT ?_)
  with_reducible refine exB ?_
  exact ⟨rfl, F.only [2, 5] rfl, H.px0⟩
 rintro a w ⟨rfl, F, H⟩
 try dsimp only at h F H
 refine wp_seq ?_
 refine rg ?_
 refine qw F (r_ldA (F.t 5 rfl) (cel_range (o := 0) (n := 5) (vs := [.int .i64 x16, .int .i64 x17, .int .i64 (IntKind.i64.wrap (a0.getD (10 : Int).toNat 0)), .int .i64 x18, .slice A20 x19.length c21]) (H.cell 1 rfl) rfl) agg53 rfl) fun a F => ?_
 replace H := (H).freeze
 obtain ⟨x223, e224, h⟩ := Option.bind_eq_some_iff.1 h
 try dsimp only at h
 refine ls (call F Try.func54 (ref16_Right_ok (a0 := (⟨x16, x17, IntKind.i64.wrap (a0.getD (10 : Int).toNat 0), x18, x19⟩ : api_Sector)) (H.p0) e224) rfl rfl fun v w hR a F => ?_)
 obtain ⟨rfl, H⟩ := hR
 refine qw F (r_not (F.t 59 rfl)) fun a F => ?_
 refine rgend ?_
 by_cases c225 : x223 = true
 ·rw [if_pos c225] at h
  rw [c225] at F
  refine wp_cond_false (F.ev rfl) ?_
  refine wp_skip ?_
  refine rg ?_
  refine qw F (r_ldA (F.t 5 rfl) (cel_range (o := 0) (n := 5) (vs := [.int .i64 x16, .int .i64 x17, .int .i64 (IntKind.i64.wrap (a0.getD (10 : Int).toNat 0)), .int .i64 x18, .slice A20 x19.length c21]) (H.cell 0 rfl) rfl) agg53 rfl) fun a F => ?_
  refine stF F [.int .i64 x16, .int .i64 x17, .int .i64 (IntKind.i64.wrap (a0.getD (10 : Int).toNat 0)), .int .i64 x18, .slice A20 x19.length c21] H.f1 rfl rfl sz53 fun w a H F => ?_
  refine as_ F (v := .bool true) rfl fun a F => ?_
  refine rgend ?_
  replace F := F.only [3, 2] (l' := [(3, _), (2, _)]) rfl
  refine wp_ret ?_
  try dsimp only at h
  obtain ⟨rfl, rfl⟩ := Prod.mk.inj (Option.some.inj h)
  exact RET _ _ (retC2 F rfl rfl rfl (ldvA (cel_range (o := 0) (n := 5) (vs := [.int .i64 x16, .int .i64 x17, .int .i64 (IntKind.i64.wrap (a0.getD (10 : Int).toNat 0)), .int .i64 x18, .slice A20 x19.length c21]) (H.cell 0 rfl) rfl) agg53 rfl) ⟨_, rfl, A20, c21, rfl, H.fx1.fx0⟩)
 rw [if_neg c225] at h
 rw [Bool.eq_false_iff.2 c225] at F
 refine wp_cond_true (F.ev rfl) ?_
 refine rg ?_
 refine ls (lbd F (vs := []) (cs := [.int .i64 0, .int .i64 0, .int .i64 0, .int .i64 0, .slice none 0 0]) rfl (fun w => by kernel_rfl) fun a F => ?_)
 refine stF F [.int .i64 0, .int .i64 0, .int .i64 0, .int .i64 0, .slice none 0 0] H.f1 rfl rfl sz53 fun w a H F => ?_
 refine as_ F (v := .bool false) rfl fun a F => ?_
 refine rgend ?_
 replace F := F.only [3, 2] (l' := [(3, _), (2, _)]) rfl
 refine wp_ret ?_
 replace H := H.nilRd kByte
 try dsimp only at h
 obtain ⟨rfl, rfl⟩ := Prod.mk.inj (Option.some.inj h)
 exact RET _ _ (retC2 F rfl rfl rfl (ldvA (cel_range (o := 0) (n := 5) (vs := [.int .i64 0, .int .i64 0, .int .i64 0, .int .i64 0, .slice none 0 0]) (H.cell 0 rfl) rfl) agg53 rfl) ⟨_, rfl, none, 0, rfl, H.px1.fx1.fx0⟩)
def ref15_Disk_call_f (a0 : ref15_Disk) : Option (Bool × ref15_Disk) :=
 (if a0.Fused = 0 then some (false, a0) else (((if a0.Fused > 0 then some (((⟨a0.L, a0.Torn, a0.P, IntKind.i64.wrap (a0.Fused - 1)⟩ : ref15_Disk))) else some a0) : Option (ref15_Disk)).bind fun x8 => some (true, x8)))
theorem ref15_Disk_call_ok {w0 w : World} {ps : List PF} {fs : List SF} {a0 : ref15_Disk} {g0_ : Nat} {r0 : Bool} {s0 : ref15_Disk} (H : Hp w0 ps (obj_ref15_Disk g0_ a0 :: fs) w) (h : ref15_Disk_call_f a0 = some (r0, s0)) :
  Calls Try.prog 56 [pt g0_].toArray w fun e w' => ∃ v, e = .returned v ∧ v = .bool r0 ∧ Hp w0 ps (obj_ref15_Disk g0_ s0 :: fs) w' := by
 refine enter [pt g0_] 21 Try.func56 fun Q a NP RET NRM F => ?_
 replace NP := np NP
 unfold ref15_Disk_call_f at h
 refine rg ?_
 refine as_ F (v := .bool false) rfl fun a F => ?_
 refine rgend ?_
 refine wp_seq ?_
 refine rg ?_
 refine mv F rfl fun a F => ?_
 refine qw F (r_nc (F.t 3 rfl)) fun a F => ?_
 refine qw F (r_fa (off := 3) (F.t 4 rfl) fa88_3) fun a F => ?_
 obtain ⟨A1, c2, A3, c4, A5, c6, H⟩ := Hp.openO_ref15_Disk (H)
 refine qw F (r_ld (F.t 5 rfl) (cel_cell (o := 3) (H.cell 0 rfl) rfl) one3) fun a F => ?_
 refine qw F (r_eq (F.t 6 rfl) (F.k (.int .i64 0))) fun a F => ?_
 refine rgend ?_
 replace F := F.only [7, 0] (l' := [(7, _), (0, _)]) rfl
 by_cases c7 : a0.Fused = 0
 ·rw [if_pos c7] at h
  rw [decide_eq_true c7] at F
  refine wp_cond_true (F.ev rfl) ?_
  refine rg ?_
  refine as_ F (v := .bool false) rfl fun a F => ?_
  refine rgend ?_
  refine wp_ret ?_
  replace H := Hp.closeO_ref15_Disk (x := a0) (H)
  try dsimp only at h
  obtain ⟨rfl, rfl⟩ := Prod.mk.inj (Option.some.inj h)
  exact RET _ _ (ret1 F rfl rfl ⟨_, rfl, rfl, H⟩)
 rw [if_neg c7] at h
 rw [decide_eq_false c7] at F
 refine wp_cond_false (F.ev rfl) ?_
 refine wp_skip ?_
 refine wp_seq ?_
 refine rg ?_
 refine mv F rfl fun a F => ?_
 refine qw F (r_nc (F.t 8 rfl)) fun a F => ?_
 refine qw F (r_fa (off := 3) (F.t 9 rfl) fa88_3) fun a F => ?_
 refine qw F (r_ld (F.t 10 rfl) (cel_cell (o := 3) (H.cell 0 rfl) rfl) one3) fun a F => ?_
 refine qw F (r_gt (F.t 11 rfl) (F.k (.int .i64 0))) fun a F => ?_
 refine rgend ?_
 replace F := F.only [12, 0] (l' := [(12, _), (0, _)]) rfl
 obtain ⟨o_8, k_8, h⟩ := Option.bind_eq_some_iff.1 h
 refine cut (fun a w => ∃ (x8 : ref15_Disk), x8 = o_8 ∧ Fr 21 [] [] a ∧ Hp w0 ps (obj_ref15_Disk g0_ x8 :: fs) w) ?_ ?_
 ·skip
  by_cases c10 : a0.Fused > 0
  ·rw [if_pos c10] at k_8
   rw [decide_eq_true c10] at F
   refine wp_cond_true (F.ev rfl) ?_
   refine wp_region_lit ?_
   iterate 2 refine mv F rfl fun a F => ?_
   refine qw F (r_nc (F.t 14 rfl)) fun a F => ?_
   refine qw F (r_fa (off := 3) (F.t 15 rfl) fa88_3) fun a F => ?_
   refine qw F (r_ld (F.t 16 rfl) (cel_cell (o := 3) (H.cell 0 rfl) rfl) one3) fun a F => ?_
   refine qw F (r_sub (F.t 17 rfl) (F.k (.int .i64 1))) fun a F => ?_
   refine qw F (r_nc (F.t 13 rfl)) fun a F => ?_
   refine qw F (r_fa (off := 3) (F.t 19 rfl) fa88_3) fun a F => ?_
   refine sto F [.int .i64 (IntKind.i64.wrap (a0.Fused - 1))] [.slice A1 a0.L.length c2, .slice A3 a0.Torn.length c4, .slice A5 a0.P.length c6, .int .i64 (IntKind.i64.wrap (a0.Fused - 1))] H rfl rfl sz3 fun w a H F => ?_
   refine wpList_nil ?_
   replace F := F.only [] (l' := []) rfl
   replace H := Hp.closeO_ref15_Disk (x := (⟨a0.L, a0.Torn, a0.P, IntKind.i64.wrap (a0.Fused - 1)⟩ : ref15_Disk)) (H)
   try dsimp only at k_8
   obtain rfl := Option.some.inj k_8
   exact ⟨_, rfl, F.only [] rfl, H⟩
  rw [if_neg c10] at k_8
  rw [decide_eq_false c10] at F
  refine wp_cond_false (F.ev rfl) ?_
  refine wp_skip ?_
  replace H := Hp.closeO_ref15_Disk (x := a0) (H)
  try dsimp only at k_8
  obtain rfl := Option.some.inj k_8
  exact ⟨_, rfl, F.only [] rfl, H⟩
 rintro a w ⟨x8, rfl, F, H⟩
 try dsimp only at h F H
 refine rg ?_
 refine as_ F (v := .bool true) rfl fun a F => ?_
 refine rgend ?_
 refine wp_ret ?_
 try dsimp only at h
 obtain ⟨rfl, rfl⟩ := Prod.mk.inj (Option.some.inj h)
 exact RET _ _ (ret1 F rfl rfl ⟨_, rfl, rfl, H⟩)
def ref15_Disk_laid_f (a0 : ref15_Disk) (a1 : ref15_Write) : Option (ref15_Disk) :=
 (if (0 + a1.B.length) * 1 ≤ 140737488355328 then (if 0 ≤ a1.At ∧ a1.At < (a0.L.length : Int) then (if 0 ≤ a1.At ∧ a1.At < (a0.Torn.length : Int) then some (((⟨(a0.L.set (a1.At : Int).toNat a1.B), (a0.Torn.set (a1.At : Int).toNat false), a0.P, a0.Fused⟩ : ref15_Disk))) else none) else none) else none)
theorem ref15_Disk_laid_ok {w0 w : World} {ps : List PF} {fs : List SF} {a0 : ref15_Disk} {g0_ : Nat} {a1 : ref15_Write} {A1_1 : Option Addr} {c1_1 : Nat} {s0 : ref15_Disk} (H : Hp w0 (rd kByte A1_1 c1_1 a1.B :: ps) (obj_ref15_Disk g0_ a0 :: fs) w) (h : ref15_Disk_laid_f a0 a1 = some s0) :
  Calls Try.prog 60 [pt g0_, .agg #[.int .i64 a1.At, .slice A1_1 a1.B.length c1_1]].toArray w fun e w' => ∃ v, e = .returned v ∧ v = .tuple #[] ∧ Hp w0 ps (obj_ref15_Disk g0_ s0 :: fs) w' := by
 refine enter [pt g0_, .agg #[.int .i64 a1.At, .slice A1_1 a1.B.length c1_1]] 22 Try.func60 fun Q a NP RET NRM F => ?_
 replace NP := np NP
 unfold ref15_Disk_laid_f at h
 refine rg ?_
 refine ls (lbox F H rfl (cs := [.int .i64 a1.At, .slice A1_1 a1.B.length c1_1]) rfl fun g1 w a H F => ?_)
 refine rgend ?_
 refine wp_seq ?_
 obtain ⟨A2, c3, A4, c5, A6, c7, H⟩ := Hp.openO_ref15_Disk (H.f1)
 replace H := H.drew
 have HS := H.fx3.fx2.fx1
 refine dr (fun w => Hp w0 (rd kByte A1_1 c1_1 a1.B :: ps) (cel g0_ [.slice A2 a0.L.length c3, .slice A4 a0.Torn.length c5, .slice A6 a0.P.length c7, .int .i64 a0.Fused] 88 :: cel g1 [.int .i64 a1.At, .slice A1_1 a1.B.length c1_1] 96 :: fs) w) _ (by kernel_rfl) ?_ (n := 12)
 refine dk 0 F rfl NP HS (fun w S => (r_mv (F.t 0 rfl))) fun a F => ?_
 refine dk 1 F rfl NP HS (fun w S => (r_nc (F.t 4 rfl))) fun a F => ?_
 refine dk 2 F rfl NP HS (fun w S => (r_fa (off := 0) (F.t 5 rfl) fa88_0)) fun a F => ?_
 refine dk 3 F rfl NP HS (fun w S => (r_ld (F.t 6 rfl) (cel_cell (o := 0) (S.cell 0 rfl) rfl) one30)) fun a F => ?_
 refine dk 4 F rfl NP HS (fun w S => (r_fa (off := 0) (F.t 3 rfl) fa96_0)) fun a F => ?_
 refine dk 5 F rfl NP HS (fun w S => (r_ld (F.t 8 rfl) (cel_cell (o := 0) (S.cell 1 rfl) rfl) one3)) fun a F => ?_
 refine dk 7 F rfl NP HS (fun w S => (r_fa (off := 1) (F.t 3 rfl) fa96_1)) fun a F => ?_
 refine dk 8 F rfl NP HS (fun w S => (r_ld (F.t 11 rfl) (cel_cell (o := 1) (S.cell 1 rfl) rfl) one29)) fun a F => ?_
 refine d1 6 rfl (by kernel_rfl) (lbs F H (e := 5) (vs := []) (cs := []) rfl (fun w => by kernel_rfl) fun g8 w a H F => ?_)
 have HS := H.fx4.fx3.fx2.fx0
 refine kg _ HS (fun w S => S) ?_
 replace H := Hp.litOwn (kd := kByte) (xs := []) (H) (SayL.nil) (Nat.le_of_ble_eq_true rfl)
 obtain ⟨c9, h⟩ := guardO h
 obtain ⟨A10, c11, _, hr, H⟩ := Hp.appendRd (kd := kByte) (xs := []) (ys := a1.B) (H) 0 rfl (F.t 10 rfl) (F.t 12 rfl) Try.underlying29 ti5 rfl (by decide) (by decide) c9
 rw [List.nil_append] at hr H
 refine d1 9 rfl (by kernel_rfl) (qv F (hr _ _ _ _ _) fun a F => ?_)
 have HS := H.fx4.fx3.fx2.fx0
 refine kg _ HS (fun w S => S) ?_
 obtain ⟨c12, h⟩ := guardO h
 obtain ⟨g13, s14, hA, hq16, hl15, H⟩ := H.ixOwn2 [] 2 rfl (F.t 7 rfl) (F.t 9 rfl) Try.underlying30 sz29 (by decide) c12.1 c12.2
 cases hA
 obtain ⟨A17, c18, rfl, H⟩ := H.says_slice 0 rfl
 have HS := H.fx4.fx3.fx2.fx0
 refine dmoreH HS (fun w S => S.px1.px0) ?_
 refine dk 10 F rfl NP HS (fun w S => (hq16 _ _ _ _ _ _)) fun a F => ?_
 replace H := (H).freeze
 obtain ⟨_, hr, H⟩ := Hp.setOwn (kd := (kSlice kByte)) (xs := a0.L) (j := (a1.At : Int).toNat) (x1 := a1.B) (H.f4.f4.f4.f3.f4) (F.t 14 rfl) (F.t 13 rfl) rfl sz29 (by have := c12; omega) (fun Z hp => ⟨A10, c11, rfl, pat hp 0 rfl⟩)
 refine d1 11 rfl (by kernel_rfl) (qn F (.inl rfl) (hr _ _ _ _) fun a F => ?_)
 replace F := F.only [14, 13, 10, 12, 11, 9, 8, 7, 6, 5, 4, 3, 0, 1] (l' := [(14, .pointer (some ⟨g13, (a1.At : Int).toNat * (kSlice kByte).sz, none⟩)), (13, .slice A10 a1.B.length c11), (10, .slice (some ⟨g8, 0, none⟩) 0 0), (12, .slice A1_1 a1.B.length c1_1), (11, .pointer (some ⟨g1, 1, none⟩)), (9, .int .i64 a1.At), (8, pt g1), (7, .slice (some ⟨g13, 0, none⟩) ((a0.L.set (a1.At : Int).toNat a1.B)).length c3), (6, pt g0_), (5, pt g0_), (4, pt g0_), (3, pt g1), (0, pt g0_), (1, .agg #[.int .i64 a1.At, .slice A1_1 a1.B.length c1_1])]) (by (try simp only [List.length_set]); rfl)
 replace H : Hp w0 (rd kByte A10 c11 a1.B :: rd kByte A17 c18 ((a0.L.getD (a1.At : Int).toNat [])) :: says (kSlice kByte) [.slice A17 ((a0.L.getD (a1.At : Int).toNat [])).length c18] ((a0.L.getD (a1.At : Int).toNat [])) :: rd kByte A1_1 c1_1 a1.B :: ps) (own (kSlice kByte) 29 (some ⟨g13, 0, none⟩) c3 ((a0.L.set (a1.At : Int).toNat a1.B)) :: cel g0_ [.slice (some ⟨g13, 0, none⟩) ((a0.L.set (a1.At : Int).toNat a1.B)).length c3, .slice A4 a0.Torn.length c5, .slice A6 a0.P.length c7, .int .i64 a0.Fused] 88 :: own kBool 4 A4 c5 a0.Torn :: own k_ref15_Write 96 A6 c7 a0.P :: cel g1 [.int .i64 a1.At, .slice A1_1 a1.B.length c1_1] 96 :: fs) _ := (by (try simp only [List.length_set] at H); (try simp only [List.length_set]); exact H)
 have HS := H.fx3.fx2.fx0
 refine kga (by kernel_rfl) HS ?_
 refine ddone (by kernel_rfl) ?_
 replace F := F.only [3, 0] (l' := [(3, _), (0, _)]) rfl
 replace H := H.drew
 have HS := H.fx3.fx2.fx0
 refine dr (fun w => Hp w0 (rd kByte A10 c11 a1.B :: rd kByte A17 c18 ((a0.L.getD (a1.At : Int).toNat [])) :: says (kSlice kByte) [.slice A17 ((a0.L.getD (a1.At : Int).toNat [])).length c18] ((a0.L.getD (a1.At : Int).toNat [])) :: rd kByte A1_1 c1_1 a1.B :: ps) (cel g0_ [.slice (some ⟨g13, 0, none⟩) ((a0.L.set (a1.At : Int).toNat a1.B)).length c3, .slice A4 a0.Torn.length c5, .slice A6 a0.P.length c7, .int .i64 a0.Fused] 88 :: cel g1 [.int .i64 a1.At, .slice A1_1 a1.B.length c1_1] 96 :: fs) w) _ (by kernel_rfl) ?_ (n := 8)
 refine dk 0 F rfl NP HS (fun w S => (r_mv (F.t 0 rfl))) fun a F => ?_
 refine dk 1 F rfl NP HS (fun w S => (r_nc (F.t 15 rfl))) fun a F => ?_
 refine dk 2 F rfl NP HS (fun w S => (r_fa (off := 1) (F.t 16 rfl) fa88_1)) fun a F => ?_
 refine dk 3 F rfl NP HS (fun w S => (r_ld (F.t 17 rfl) (cel_cell (o := 1) (S.cell 0 rfl) rfl) one33)) fun a F => ?_
 refine dk 4 F rfl NP HS (fun w S => (r_fa (off := 0) (F.t 3 rfl) fa96_0)) fun a F => ?_
 refine dk 5 F rfl NP HS (fun w S => (r_ld (F.t 19 rfl) (cel_cell (o := 0) (S.cell 1 rfl) rfl) one3)) fun a F => ?_
 obtain ⟨c19, h⟩ := guardO h
 obtain ⟨g20, s21, hA, hq23, hl22, H⟩ := H.ixOwn2 false 2 rfl (F.t 18 rfl) (F.t 20 rfl) Try.underlying33 sz4 (by decide) c19.1 c19.2
 cases hA
 obtain rfl := H.says_bool 0 rfl
 have HS := H.fx3.fx2.fx0
 refine dmoreH HS (fun w S => S.px0) ?_
 refine dk 6 F rfl NP HS (fun w S => (hq23 _ _ _ _ _ _)) fun a F => ?_
 obtain ⟨_, hr, H⟩ := Hp.setOwn (kd := kBool) (xs := a0.Torn) (j := (a1.At : Int).toNat) (x1 := false) (H.f4.f4.f3.f3.f4) (F.t 21 rfl) (F.k (.bool false)) rfl sz4 (by have := c19; omega) (fun Z hp => rfl)
 refine d1 7 rfl (by kernel_rfl) (qn F (.inl rfl) (hr _ _ _ _) fun a F => ?_)
 replace F := F.only [21, 20, 19, 18, 17, 16, 15, 3, 0] (l' := [(21, .pointer (some ⟨g20, (a1.At : Int).toNat * kBool.sz, none⟩)), (20, .int .i64 a1.At), (19, pt g1), (18, .slice (some ⟨g20, 0, none⟩) ((a0.Torn.set (a1.At : Int).toNat false)).length c5), (17, .pointer (some ⟨g0_, 1, none⟩)), (16, pt g0_), (15, pt g0_), (3, pt g1), (0, pt g0_)]) (by (try simp only [List.length_set]); rfl)
 replace H : Hp w0 (says kBool [.bool ((a0.Torn.getD (a1.At : Int).toNat false))] ((a0.Torn.getD (a1.At : Int).toNat false)) :: rd kByte A10 c11 a1.B :: rd kByte A17 c18 ((a0.L.getD (a1.At : Int).toNat [])) :: says (kSlice kByte) [.slice A17 ((a0.L.getD (a1.At : Int).toNat [])).length c18] ((a0.L.getD (a1.At : Int).toNat [])) :: rd kByte A1_1 c1_1 a1.B :: ps) (own kBool 4 (some ⟨g20, 0, none⟩) c5 ((a0.Torn.set (a1.At : Int).toNat false)) :: own (kSlice kByte) 29 (some ⟨g13, 0, none⟩) c3 ((a0.L.set (a1.At : Int).toNat a1.B)) :: cel g0_ [.slice (some ⟨g13, 0, none⟩) ((a0.L.set (a1.At : Int).toNat a1.B)).length c3, .slice (some ⟨g20, 0, none⟩) ((a0.Torn.set (a1.At : Int).toNat false)).length c5, .slice A6 a0.P.length c7, .int .i64 a0.Fused] 88 :: own k_ref15_Write 96 A6 c7 a0.P :: cel g1 [.int .i64 a1.At, .slice A1_1 a1.B.length c1_1] 96 :: fs) _ := (by (try simp only [List.length_set] at H); (try simp only [List.length_set]); exact H)
 have HS := H.fx3.fx1.fx0
 refine kga (by kernel_rfl) HS ?_
 refine ddone (by kernel_rfl) ?_
 replace F := F.only [] (l' := []) rfl
 replace H := Hp.closeO_ref15_Disk (x := (⟨(a0.L.set (a1.At : Int).toNat a1.B), (a0.Torn.set (a1.At : Int).toNat false), a0.P, a0.Fused⟩ : ref15_Disk)) (H.f4.f4.f2.f3.f4)
 try dsimp only at h
 obtain rfl := Option.some.inj h
 exact NRM _ _ (ret0 F rfl ⟨_, rfl, rfl, H.px4.px3.px2.px1.px0.fx1⟩)
def ref15_New_b0 (a0 : Int) : (Int × ref15_Disk) → Option (Int × ref15_Disk ⊕ ref15_Disk)
 | (x4, x5) => (if x4 < a0 then (if 0 ≤ (64 : Int) ∧ 1 * (64 : Int) ≤ 281474976710656 then (if (x5.L.length + 1) * 24 ≤ 140737488355328 then (if (x5.Torn.length + 1) * 1 ≤ 140737488355328 then some (.inl (IntKind.i64.wrap (x4 + 1), (⟨(x5.L ++ ([List.replicate (64 : Int).toNat (0 : Int)])), (x5.Torn ++ ([false])), x5.P, x5.Fused⟩ : ref15_Disk))) else none) else none) else none) else some (.inr x5))
def ref15_New_f (a0 : Int) : Option (Option ref15_Disk) :=
 (if a0 < 0 then some none else (if a0 > 4096 then some none else ((lp (ref15_New_b0 a0) (0, (⟨[], [], [], (-1)⟩ : ref15_Disk))).bind fun x6 => some (some x6))))
theorem ref15_New_ok {w0 w : World} {ps : List PF} {fs : List SF} {a0 : Int} {r0 : Option ref15_Disk} (H : Hp w0 ps fs w) (h : ref15_New_f a0 = some r0) :
  Calls Try.prog 25 [.int .i64 a0].toArray w fun e w' => ∃ v, e = .returned v ∧ (match r0 with | none => v = .pointer none ∧ Hp w0 ps fs w' | some x => ∃ g : Nat, v = .pointer (some ⟨g, 0, none⟩) ∧ Hp w0 ps (obj_ref15_Disk g x :: fs) w') := by
 refine enter [.int .i64 a0] 38 Try.func25 fun Q a NP RET NRM F => ?_
 replace NP := np NP
 unfold ref15_New_f at h
 refine rg ?_
 refine as_ F (v := .pointer none) rfl fun a F => ?_
 refine rgend ?_
 refine wp_seq ?_
 refine rg ?_
 refine mv F rfl fun a F => ?_
 refine qw F (r_lt (F.t 5 rfl) (F.k (.int .i64 0))) fun a F => ?_
 refine mv F rfl fun a F => ?_
 by_cases c1 : a0 < 0
 ·rw [if_pos c1] at h
  rw [decide_eq_true c1] at F
  iterate 2 refine of_ F fun a F => ?_
  refine qw F (r_pickT (F.t 7 rfl) (F.k (.bool true))) fun a F => ?_
  refine rgend ?_
  replace F := F.only [10, 0] (l' := [(10, _), (0, _)]) rfl
  refine wp_cond_true (F.ev rfl) ?_
  refine rg ?_
  refine as_ F (v := .pointer none) rfl fun a F => ?_
  refine rgend ?_
  refine wp_ret ?_
  try dsimp only at h
  obtain rfl := Option.some.inj h
  exact RET _ _ (ret1 F rfl rfl ⟨_, rfl, rfl, H⟩)
 rw [if_neg c1] at h
 rw [decide_eq_false c1] at F
 refine mv F rfl fun a F => ?_
 refine qw F (r_gt (F.t 8 rfl) (F.k (.int .i64 4096))) fun a F => ?_
 refine qw F (r_pickF (F.t 7 rfl) (F.t 9 rfl)) fun a F => ?_
 refine rgend ?_
 replace F := F.only [10, 0] (l' := [(10, _), (0, _)]) rfl
 by_cases c2 : a0 > 4096
 ·rw [if_pos c2] at h
  rw [decide_eq_true c2] at F
  refine wp_cond_true (F.ev rfl) ?_
  refine rg ?_
  refine as_ F (v := .pointer none) rfl fun a F => ?_
  refine rgend ?_
  refine wp_ret ?_
  try dsimp only at h
  obtain rfl := Option.some.inj h
  exact RET _ _ (ret1 F rfl rfl ⟨_, rfl, rfl, H⟩)
 rw [if_neg c2] at h
 rw [decide_eq_false c2] at F
 refine wp_cond_false (F.ev rfl) ?_
 refine wp_skip ?_
 refine rg ?_
 refine ls (lbd F (vs := [(3, .int .i64 (-1))]) (cs := [.slice none 0 0, .slice none 0 0, .slice none 0 0, .int .i64 (-1)]) rfl (fun w => by kernel_rfl) fun a F => ?_)
 refine ls (lbox F H rfl (cs := [.slice none 0 0, .slice none 0 0, .slice none 0 0, .int .i64 (-1)]) rfl fun g3 w a H F => ?_)
 refine as_ F rfl fun a F => ?_
 refine rgend ?_
 refine wp_seq ?_
 refine rg ?_
 refine as_ F (v := .int .i64 0) rfl fun a F => ?_
 refine rgend ?_
 replace H := H.nilOwn (kSlice kByte) 29
 replace H := H.nilOwn kBool 4
 replace H := H.nilOwn k_ref15_Write 96
 replace H := Hp.closeO_ref15_Disk (x := (⟨[], [], [], (-1)⟩ : ref15_Disk)) (H.f1.f2.f3)
 obtain ⟨o_6, k_6, h⟩ := Option.bind_eq_some_iff.1 h
 refine cut (fun a w => ∃ (x6 : ref15_Disk), x6 = o_6 ∧ Fr 38 [] [(3, pt g3)] a ∧ Hp w0 ps (obj_ref15_Disk g3 x6 :: fs) w) (wp_block ?_) ?_
 ·refine wloop (ref15_New_b0 a0) (fun (s : Int × ref15_Disk) a w => Fr 38 [] [(0, .int .i64 a0), (3, pt g3), (4, .int .i64 s.1)] a ∧ Hp w0 ps (obj_ref15_Disk g3 s.2 :: fs) w) k_6 ⟨F.only [0, 3, 4] rfl, H⟩ ?_
  rintro ⟨x4, x5⟩ a w q_6 j_6 u_6 ⟨F, H⟩
  unfold ref15_New_b0 at j_6
  try dsimp only at j_6 F H
  refine wp_seq ?_
  refine rg ?_
  iterate 2 refine mv F rfl fun a F => ?_
  refine qw F (r_lt (F.t 13 rfl) (F.t 14 rfl)) fun a F => ?_
  refine rgend ?_
  by_cases c8 : x4 < a0
  ·rw [if_pos c8] at j_6
   rw [decide_eq_true c8] at F
   refine wp_cond_true (F.ev rfl) ?_
   refine wp_skip ?_
   refine wp_seq ?_
   refine wp_block ?_
   refine wp_seq ?_
   obtain ⟨A9, c10, A11, c12, A13, c14, H⟩ := Hp.openO_ref15_Disk (H)
   replace H := H.drew
   have HS := H.fx3.fx2.fx1
   refine dr (fun w => Hp w0 ps (cel g3 [.slice A9 x5.L.length c10, .slice A11 x5.Torn.length c12, .slice A13 x5.P.length c14, .int .i64 x5.Fused] 88 :: fs) w) _ (by kernel_rfl) ?_ (n := 11)
   refine dk 0 F rfl NP HS (fun w S => (r_mv (F.t 3 rfl))) fun a F => ?_
   refine dk 1 F rfl NP HS (fun w S => (r_mv (F.t 3 rfl))) fun a F => ?_
   refine dk 2 F rfl NP HS (fun w S => (r_nc (F.t 19 rfl))) fun a F => ?_
   refine dk 3 F rfl NP HS (fun w S => (r_fa (off := 0) (F.t 20 rfl) fa88_0)) fun a F => ?_
   refine dk 4 F rfl NP HS (fun w S => (r_ld (F.t 21 rfl) (cel_cell (o := 0) (S.cell 0 rfl) rfl) one30)) fun a F => ?_
   obtain ⟨c16, j_6⟩ := guardO j_6
   obtain ⟨g15, _, hr, H⟩ := Hp.make (kd := kByte) (zx := (0 : Int)) H (F.k (.int .i64 64)) (F.k (.int .i64 64)) Try.underlying29 ti5 rfl rfl (by decide) c16.1 c16.2 (fun Z w => ⟨rfl, by decide⟩) rfl
   refine d1 5 rfl (by kernel_rfl) (qv F (hr _ _ _ _ _) fun a F => ?_)
   have HS := H.fx4.fx3.fx2.fx0
   refine kg _ HS (fun w S => S) ?_
   replace H := (H).freeze
   have HS := H.fx3.fx2.fx1
   refine dmoreH HS (fun w S => S.px0) ?_
   refine d1 6 rfl (by kernel_rfl) (lbs F H (e := 29) (vs := [(0, .slice (some ⟨g15, 0, none⟩) (List.replicate (64 : Int).toNat (0 : Int)).length ((List.replicate (64 : Int).toNat (0 : Int)).length))]) (cs := [.slice (some ⟨g15, 0, none⟩) (List.replicate (64 : Int).toNat (0 : Int)).length ((List.replicate (64 : Int).toNat (0 : Int)).length)]) rfl (fun w => by kernel_rfl) fun g17 w a H F => ?_)
   have HS := H.fx4.fx3.fx2.fx0
   refine kg _ HS (fun w S => S) ?_
   obtain ⟨c18, j_6⟩ := guardO j_6
   obtain ⟨A19, c20, _, hr, H⟩ := Hp.appendCelL (kd := (kSlice kByte)) (xs := x5.L) (ys := [List.replicate (64 : Int).toNat (0 : Int)]) (H.f4.f4.f3.f3.f4) (F.t 22 rfl) (F.t 24 rfl) Try.underlying30 ti29 rfl (by decide) (by decide) rfl ((SayL.cons (kd := (kSlice kByte)) (c1 := [.slice (some ⟨g15, 0, none⟩) (List.replicate (64 : Int).toNat (0 : Int)).length ((List.replicate (64 : Int).toNat (0 : Int)).length)]) (y := List.replicate (64 : Int).toNat (0 : Int)) (fun Z hp => ⟨(some ⟨g15, 0, none⟩), (List.replicate (64 : Int).toNat (0 : Int)).length, rfl, pat hp 0 rfl⟩) SayL.nil)) c18
   refine d1 7 rfl (by kernel_rfl) (qv F (hr _ _ _ _ _) fun a F => ?_)
   have HS := H.fx3.fx2.fx0
   refine kg _ HS (fun w S => S) ?_
   refine dk 8 F rfl NP HS (fun w S => (r_nc (F.t 18 rfl))) fun a F => ?_
   refine dk 9 F rfl NP HS (fun w S => (r_fa (off := 0) (F.t 26 rfl) fa88_0)) fun a F => ?_
   obtain ⟨_, hr, H⟩ := Hp.store (t := 30) (o := 0) (n := 1) (vs := [.slice A19 ((x5.L ++ ([List.replicate (64 : Int).toNat (0 : Int)]))).length c20]) (cs' := [.slice A19 ((x5.L ++ ([List.replicate (64 : Int).toNat (0 : Int)]))).length c20, .slice A11 x5.Torn.length c12, .slice A13 x5.P.length c14, .int .i64 x5.Fused]) (H.f3.f3.f2.f3) (F.t 27 rfl) (F.t 25 rfl) rfl sz30 rfl (Nat.le_of_ble_eq_true rfl) rfl rfl
   refine d1 10 rfl (by kernel_rfl) (qn F (.inl rfl) (hr _ _ _ _) fun a F => ?_)
   have HS := H.fx3.fx2.fx1
   refine kga (by kernel_rfl) HS ?_
   refine ddone (by kernel_rfl) ?_
   replace F := F.only [0, 3, 4] (l' := [(0, _), (3, _), (4, _)]) rfl
   refine wp_region_lit ?_
   iterate 2 refine mv F rfl fun a F => ?_
   refine qw F (r_nc (F.t 29 rfl)) fun a F => ?_
   refine qw F (r_fa (off := 1) (F.t 30 rfl) fa88_1) fun a F => ?_
   refine qw F (r_ld (F.t 31 rfl) (cel_cell (o := 1) (H.cell 0 rfl) rfl) one33) fun a F => ?_
   refine ls (lbs F H (e := 4) (vs := [(0, .bool false)]) (cs := [.bool false]) rfl (fun w => by kernel_rfl) fun g21 w a H F => ?_)
   obtain ⟨c22, j_6⟩ := guardO j_6
   obtain ⟨A23, c24, _, hr, H⟩ := Hp.appendCelL (kd := kBool) (xs := x5.Torn) (ys := [false]) (H.f4.f3.f3.f3.f4) (F.t 32 rfl) (F.t 33 rfl) Try.underlying33 ti4 rfl (by decide) (by decide) rfl ((SayL.cons (kd := kBool) (c1 := [.bool false]) (y := false) (fun Z hp => rfl) SayL.nil)) c22
   refine qw F (hr _ _ _ _ _) fun a F => ?_
   refine qw F (r_nc (F.t 28 rfl)) fun a F => ?_
   refine qw F (r_fa (off := 1) (F.t 35 rfl) fa88_1) fun a F => ?_
   refine sto F [.slice A23 ((x5.Torn ++ ([false]))).length c24] [.slice A19 ((x5.L ++ ([List.replicate (64 : Int).toNat (0 : Int)]))).length c20, .slice A23 ((x5.Torn ++ ([false]))).length c24, .slice A13 x5.P.length c14, .int .i64 x5.Fused] H.f3.f3.f2.f3 rfl rfl sz33 fun w a H F => ?_
   refine wpList_nil ?_
   replace F := F.only [0, 3, 4] (l' := [(0, _), (3, _), (4, _)]) rfl
   refine wp_region_lit ?_
   refine mv F rfl fun a F => ?_
   refine qw F (r_add (F.t 16 rfl) (F.k (.int .i64 1))) fun a F => ?_
   refine as_ F rfl fun a F => ?_
   refine wpList_nil ?_
   replace H := Hp.closeO_ref15_Disk (x := (⟨(x5.L ++ ([List.replicate (64 : Int).toNat (0 : Int)])), (x5.Torn ++ ([false])), x5.P, x5.Fused⟩ : ref15_Disk)) (H.f3.f2.f3.f3)
   try dsimp only at j_6
   obtain rfl := Option.some.inj j_6
   exact ⟨_, rfl, F.only [0, 3, 4] rfl, H.px0⟩
  rw [if_neg c8] at j_6
  rw [decide_eq_false c8] at F
  refine wp_cond_false (F.ev rfl) ?_
  refine wp_exit ?_
  try dsimp only at j_6
  obtain rfl := Option.some.inj j_6
  obtain rfl := u_6 _ rfl
  repeat (with_reducible refine exT ?_)
  with_reducible refine exB ?_
  exact ⟨_, rfl, F.only [3] rfl, H⟩
 rintro a w ⟨x6, rfl, F, H⟩
 try dsimp only at h F H
 refine rg ?_
 refine mv F rfl fun a F => ?_
 refine as_ F rfl fun a F => ?_
 refine rgend ?_
 refine wp_ret ?_
 try dsimp only at h
 obtain rfl := Option.some.inj h
 exact RET _ _ (ret1 F rfl rfl ⟨_, rfl, g3, rfl, H⟩)
def ref15_Disk_Read_b0 (a0 : ref15_Disk) (a1 : Int) : Int → Option (Int ⊕ (Unit ⊕ ((List Int) × Int)))
 | x9 => (if x9 ≥ 0 then (if 0 ≤ x9 ∧ x9 < (a0.P.length : Int) then (if ((a0.P.getD (x9 : Int).toNat (⟨0, []⟩ : ref15_Write)).At) = a1 then (if 0 ≤ x9 ∧ x9 < (a0.P.length : Int) then (if (0 + ((a0.P.getD (x9 : Int).toNat (⟨0, []⟩ : ref15_Write)).B).length) * 1 ≤ 140737488355328 then some (.inr (.inr (((a0.P.getD (x9 : Int).toNat (⟨0, []⟩ : ref15_Write)).B, 0)))) else none) else none) else some (.inl (IntKind.i64.wrap (x9 - 1)))) else none) else some (.inr (.inl ())))
def ref15_Disk_Read_f (a0 : ref15_Disk) (a1 : Int) : Option ((List Int) × Int) :=
 (if a1 < 0 then some ([], 3) else (if a1 ≥ (a0.L.length : Int) then some ([], 3) else ((lp (ref15_Disk_Read_b0 a0 a1) (IntKind.i64.wrap ((a0.P.length : Int) - 1))).bind fun q => match q with | .inl _ => (if 0 ≤ a1 ∧ a1 < (a0.Torn.length : Int) then (if ((a0.Torn.getD (a1 : Int).toNat false)) = true then some ([], 41) else (if 0 ≤ a1 ∧ a1 < (a0.L.length : Int) then (if (0 + ((a0.L.getD (a1 : Int).toNat [])).length) * 1 ≤ 140737488355328 then some (((a0.L.getD (a1 : Int).toNat []), 0)) else none) else none)) else none) | .inr r => some r)))
theorem ref15_Disk_Read_ok {w0 w : World} {ps : List PF} {fs : List SF} {a0 : ref15_Disk} {g0_ : Nat} {a1 : Int} {r0 : List Int} {r1 : Int} (H : Hp w0 ps (obj_ref15_Disk g0_ a0 :: fs) w) (h : ref15_Disk_Read_f a0 a1 = some (r0, r1)) :
  Calls Try.prog 65 [pt g0_, .int .i64 a1].toArray w fun e w' => ∃ v, e = .returned v ∧ ∃ (A0 : Option Addr) (c0 : Nat), v = .tuple #[.slice A0 r0.length c0, .int .i64 r1] ∧ Hp w0 ps (own kByte 5 A0 c0 r0 :: obj_ref15_Disk g0_ a0 :: fs) w' := by
 refine enter [pt g0_, .int .i64 a1] 64 Try.func65 fun Q a NP RET NRM F => ?_
 replace NP := np NP
 unfold ref15_Disk_Read_f at h
 refine rg ?_
 refine as_ F (v := .slice none 0 0) rfl fun a F => ?_
 refine as_ F (v := .int .i64 0) rfl fun a F => ?_
 refine rgend ?_
 refine wp_seq ?_
 refine rg ?_
 refine mv F rfl fun a F => ?_
 refine qw F (r_lt (F.t 7 rfl) (F.k (.int .i64 0))) fun a F => ?_
 refine mv F rfl fun a F => ?_
 by_cases c1 : a1 < 0
 ·rw [if_pos c1] at h
  rw [decide_eq_true c1] at F
  iterate 7 refine of_ F fun a F => ?_
  refine qw F (r_pickT (F.t 9 rfl) (F.k (.bool true))) fun a F => ?_
  refine rgend ?_
  replace F := F.only [17, 0, 1] (l' := [(17, _), (0, _), (1, _)]) rfl
  refine wp_cond_true (F.ev rfl) ?_
  refine rg ?_
  refine as_ F (v := .slice none 0 0) rfl fun a F => ?_
  refine as_ F (v := .int .i64 3) rfl fun a F => ?_
  refine rgend ?_
  refine wp_ret ?_
  replace H := H.nilOwn kByte 5
  try dsimp only at h
  obtain ⟨rfl, rfl⟩ := Prod.mk.inj (Option.some.inj h)
  exact RET _ _ (ret2 F rfl rfl rfl ⟨_, rfl, none, 0, rfl, H⟩)
 rw [if_neg c1] at h
 rw [decide_eq_false c1] at F
 iterate 2 refine mv F rfl fun a F => ?_
 refine qw F (r_nc (F.t 11 rfl)) fun a F => ?_
 refine qw F (r_fa (off := 0) (F.t 12 rfl) fa88_0) fun a F => ?_
 obtain ⟨A2, c3, A4, c5, A6, c7, H⟩ := Hp.openO_ref15_Disk (H)
 refine qw F (r_ld (F.t 13 rfl) (cel_cell (o := 0) (H.cell 0 rfl) rfl) one30) fun a F => ?_
 refine qw F (r_len (F.t 14 rfl) Try.underlying30) fun a F => ?_
 refine qw F (r_ge (F.t 10 rfl) (F.t 15 rfl)) fun a F => ?_
 refine qw F (r_pickF (F.t 9 rfl) (F.t 16 rfl)) fun a F => ?_
 refine rgend ?_
 replace F := F.only [17, 0, 1] (l' := [(17, _), (0, _), (1, _)]) rfl
 by_cases c8 : a1 ≥ (a0.L.length : Int)
 ·rw [if_pos c8] at h
  rw [decide_eq_true c8] at F
  refine wp_cond_true (F.ev rfl) ?_
  refine rg ?_
  refine as_ F (v := .slice none 0 0) rfl fun a F => ?_
  refine as_ F (v := .int .i64 3) rfl fun a F => ?_
  refine rgend ?_
  refine wp_ret ?_
  replace H := H.nilOwn kByte 5
  replace H := Hp.closeO_ref15_Disk (x := a0) (H.f4.f4.f4.f4)
  try dsimp only at h
  obtain ⟨rfl, rfl⟩ := Prod.mk.inj (Option.some.inj h)
  exact RET _ _ (ret2 F rfl rfl rfl ⟨_, rfl, none, 0, rfl, H.f1⟩)
 rw [if_neg c8] at h
 rw [decide_eq_false c8] at F
 refine wp_cond_false (F.ev rfl) ?_
 refine wp_skip ?_
 refine wp_seq ?_
 refine rg ?_
 refine mv F rfl fun a F => ?_
 refine qw F (r_nc (F.t 18 rfl)) fun a F => ?_
 refine qw F (r_fa (off := 2) (F.t 19 rfl) fa88_2) fun a F => ?_
 refine qw F (r_ld (F.t 20 rfl) (cel_cell (o := 2) (H.cell 0 rfl) rfl) one86) fun a F => ?_
 refine qw F (r_len (F.t 21 rfl) Try.underlying86) fun a F => ?_
 refine qw F (r_sub (F.t 22 rfl) (F.k (.int .i64 1))) fun a F => ?_
 refine as_ F rfl fun a F => ?_
 refine rgend ?_
 replace F := F.only [6, 0, 1] (l' := [(6, _), (0, _), (1, _)]) rfl
 replace H := Hp.closeO_ref15_Disk (x := a0) (H)
 obtain ⟨o_9, k_9, h⟩ := Option.bind_eq_some_iff.1 h
 refine cut (fun a w => Sum.inl () = o_9 ∧ Fr 64 [] [(0, pt g0_), (1, .int .i64 a1)] a ∧ Hp w0 ps (obj_ref15_Disk g0_ a0 :: fs) w) (wp_block ?_) ?_
 ·refine wloop (ref15_Disk_Read_b0 a0 a1) (fun (s : Int) a w => Fr 64 [] [(0, pt g0_), (1, .int .i64 a1), (6, .int .i64 s)] a ∧ Hp w0 ps (obj_ref15_Disk g0_ a0 :: fs) w) k_9 ⟨F.only [0, 1, 6] rfl, H⟩ ?_
  rintro x9 a w q_9 j_9 u_9 ⟨F, H⟩
  unfold ref15_Disk_Read_b0 at j_9
  try dsimp only at j_9 F H
  refine wp_seq ?_
  refine rg ?_
  refine mv F rfl fun a F => ?_
  refine qw F (r_ge (F.t 24 rfl) (F.k (.int .i64 0))) fun a F => ?_
  refine rgend ?_
  by_cases c11 : x9 ≥ 0
  ·rw [if_pos c11] at j_9
   rw [decide_eq_true c11] at F
   refine wp_cond_true (F.ev rfl) ?_
   refine wp_skip ?_
   refine wp_seq ?_
   refine wp_block ?_
   refine rg ?_
   refine mv F rfl fun a F => ?_
   refine qw F (r_nc (F.t 28 rfl)) fun a F => ?_
   refine qw F (r_fa (off := 2) (F.t 29 rfl) fa88_2) fun a F => ?_
   obtain ⟨A12, c13, A14, c15, A16, c17, H⟩ := Hp.openO_ref15_Disk (H)
   refine qw F (r_ld (F.t 30 rfl) (cel_cell (o := 2) (H.cell 0 rfl) rfl) one86) fun a F => ?_
   refine mv F rfl fun a F => ?_
   obtain ⟨c18, j_9⟩ := guardO j_9
   obtain ⟨g19, s20, hA, hq22, hl21, H⟩ := H.ixOwn2 (⟨0, []⟩ : ref15_Write) 3 rfl (F.t 31 rfl) (F.t 32 rfl) Try.underlying86 sz96 (by decide) c18.1 c18.2
   have hA23 := hA
   obtain ⟨A24, c25, rfl, H⟩ := H.open_ref15_Write 0 rfl
   refine qw F (hq22 _ _ _ _ _ _) fun a F => ?_
   refine qw F (r_fa (off := 0) (F.t 33 rfl) fa96_0) fun a F => ?_
   refine qw F (r_ld (F.t 34 rfl) (range_cell (j := 0) hl21 rfl) one3) fun a F => ?_
   refine mv F rfl fun a F => ?_
   refine qw F (r_eq (F.t 35 rfl) (F.t 36 rfl)) fun a F => ?_
   refine rgend ?_
   replace F := F.only [37, 0, 1, 6] (l' := [(37, _), (0, _), (1, _), (6, _)]) rfl
   by_cases c26 : ((a0.P.getD (x9 : Int).toNat (⟨0, []⟩ : ref15_Write)).At) = a1
   ·rw [if_pos c26] at j_9
    rw [decide_eq_true c26] at F
    refine wp_cond_true (F.ev rfl) ?_
    refine rg ?_
    refine ls (lbs F H (e := 5) (vs := []) (cs := []) rfl (fun w => by kernel_rfl) fun g27 w a H F => ?_)
    refine mv F rfl fun a F => ?_
    refine qw F (r_nc (F.t 39 rfl)) fun a F => ?_
    refine qw F (r_fa (off := 2) (F.t 40 rfl) fa88_2) fun a F => ?_
    refine qw F (r_ld (F.t 41 rfl) (cel_cell (o := 2) (H.cell 1 rfl) rfl) one86) fun a F => ?_
    refine mv F rfl fun a F => ?_
    obtain ⟨c28, j_9⟩ := guardO j_9
    obtain ⟨g29, s30, hA, hq32, hl31, H⟩ := H.ixOwn2 (⟨0, []⟩ : ref15_Write) 4 rfl (F.t 42 rfl) (F.t 43 rfl) Try.underlying86 sz96 (by decide) c28.1 c28.2
    have hA33 := hA
    obtain ⟨A34, c35, rfl, H⟩ := H.open_ref15_Write 0 rfl
    refine qw F (hq32 _ _ _ _ _ _) fun a F => ?_
    refine qw F (r_fa (off := 1) (F.t 44 rfl) fa96_1) fun a F => ?_
    refine qw F (r_ld (F.t 45 rfl) (range_cell (j := 1) hl31 rfl) one29) fun a F => ?_
    replace H := Hp.litOwn (kd := kByte) (xs := []) (H) (SayL.nil) (Nat.le_of_ble_eq_true rfl)
    obtain ⟨c36, j_9⟩ := guardO j_9
    obtain ⟨A37, c38, _, hr, H⟩ := Hp.appendRd (kd := kByte) (xs := []) (ys := (a0.P.getD (x9 : Int).toNat (⟨0, []⟩ : ref15_Write)).B) (H) 0 rfl (F.t 38 rfl) (F.t 46 rfl) Try.underlying29 ti5 rfl (by decide) (by decide) c36
    rw [List.nil_append] at hr H
    refine qw F (hr _ _ _ _ _) fun a F => ?_
    refine as_ F rfl fun a F => ?_
    refine as_ F (v := .int .i64 0) rfl fun a F => ?_
    refine rgend ?_
    replace F := F.only [5, 4] (l' := [(5, _), (4, _)]) rfl
    refine wp_ret ?_
    replace H := Hp.closeO_ref15_Disk (x := a0) (H.f4.f4.f4.f4)
    try dsimp only at j_9
    obtain rfl := Option.some.inj j_9
    obtain rfl := u_9 _ rfl
    try dsimp only at h
    obtain ⟨rfl, rfl⟩ := Prod.mk.inj (Option.some.inj h)
    exact RET _ _ (ret2 F rfl rfl rfl ⟨_, rfl, A37, c38, rfl, H.px3.px2.px1.px0.f1⟩)
   rw [if_neg c26] at j_9
   rw [decide_eq_false c26] at F
   refine wp_cond_false (F.ev rfl) ?_
   refine wp_skip ?_
   refine wp_region_lit ?_
   refine mv F rfl fun a F => ?_
   refine qw F (r_sub (F.t 26 rfl) (F.k (.int .i64 1))) fun a F => ?_
   refine as_ F rfl fun a F => ?_
   refine wpList_nil ?_
   replace F := F.only [6, 0, 1] (l' := [(6, _), (0, _), (1, _)]) rfl
   replace H := Hp.closeO_ref15_Disk (x := a0) (H)
   try dsimp only at j_9
   obtain rfl := Option.some.inj j_9
   exact ⟨_, rfl, F.only [0, 1, 6] rfl, H.px1.px0⟩
  rw [if_neg c11] at j_9
  rw [decide_eq_false c11] at F
  refine wp_cond_false (F.ev rfl) ?_
  refine wp_exit ?_
  try dsimp only at j_9
  obtain rfl := Option.some.inj j_9
  obtain rfl := u_9 _ rfl
  repeat (with_reducible refine exT ?_)
  with_reducible refine exB ?_
  exact ⟨rfl, F.only [0, 1] rfl, H⟩
 rintro a w ⟨rfl, F, H⟩
 try dsimp only at h F H
 refine wp_seq ?_
 refine rg ?_
 refine mv F rfl fun a F => ?_
 refine qw F (r_nc (F.t 48 rfl)) fun a F => ?_
 refine qw F (r_fa (off := 1) (F.t 49 rfl) fa88_1) fun a F => ?_
 obtain ⟨A39, c40, A41, c42, A43, c44, H⟩ := Hp.openO_ref15_Disk (H)
 refine qw F (r_ld (F.t 50 rfl) (cel_cell (o := 1) (H.cell 0 rfl) rfl) one33) fun a F => ?_
 refine mv F rfl fun a F => ?_
 obtain ⟨c45, h⟩ := guardO h
 obtain ⟨g46, s47, hA, hq49, hl48, H⟩ := H.ixOwn2 false 2 rfl (F.t 51 rfl) (F.t 52 rfl) Try.underlying33 sz4 (by decide) c45.1 c45.2
 have hA50 := hA
 obtain rfl := H.says_bool 0 rfl
 refine qw F (hq49 _ _ _ _ _ _) fun a F => ?_
 refine qw F (r_ld (F.t 53 rfl) (range_cell (j := 0) hl48 rfl) one4) fun a F => ?_
 refine rgend ?_
 replace F := F.only [54, 0, 1] (l' := [(54, _), (0, _), (1, _)]) rfl
 by_cases c51 : ((a0.Torn.getD (a1 : Int).toNat false)) = true
 ·rw [if_pos c51] at h
  rw [c51] at F
  refine wp_cond_true (F.ev rfl) ?_
  refine rg ?_
  refine as_ F (v := .slice none 0 0) rfl fun a F => ?_
  refine as_ F (v := .int .i64 41) rfl fun a F => ?_
  refine rgend ?_
  refine wp_ret ?_
  replace H := H.nilOwn kByte 5
  replace H := Hp.closeO_ref15_Disk (x := a0) (H.f4.f4.f4.f4)
  try dsimp only at h
  obtain ⟨rfl, rfl⟩ := Prod.mk.inj (Option.some.inj h)
  exact RET _ _ (ret2 F rfl rfl rfl ⟨_, rfl, none, 0, rfl, H.px0.f1⟩)
 rw [if_neg c51] at h
 rw [Bool.eq_false_iff.2 c51] at F
 refine wp_cond_false (F.ev rfl) ?_
 refine wp_skip ?_
 refine rg ?_
 refine ls (lbs F H (e := 5) (vs := []) (cs := []) rfl (fun w => by kernel_rfl) fun g52 w a H F => ?_)
 refine mv F rfl fun a F => ?_
 refine qw F (r_nc (F.t 56 rfl)) fun a F => ?_
 refine qw F (r_fa (off := 0) (F.t 57 rfl) fa88_0) fun a F => ?_
 refine qw F (r_ld (F.t 58 rfl) (cel_cell (o := 0) (H.cell 1 rfl) rfl) one30) fun a F => ?_
 refine mv F rfl fun a F => ?_
 obtain ⟨c53, h⟩ := guardO h
 obtain ⟨g54, s55, hA, hq57, hl56, H⟩ := H.ixOwn2 [] 2 rfl (F.t 59 rfl) (F.t 60 rfl) Try.underlying30 sz29 (by decide) c53.1 c53.2
 have hA58 := hA
 obtain ⟨A59, c60, rfl, H⟩ := H.says_slice 0 rfl
 refine qw F (hq57 _ _ _ _ _ _) fun a F => ?_
 refine qw F (r_ld (F.t 61 rfl) (range_cell (j := 0) hl56 rfl) one29) fun a F => ?_
 replace H := Hp.litOwn (kd := kByte) (xs := []) (H) (SayL.nil) (Nat.le_of_ble_eq_true rfl)
 obtain ⟨c61, h⟩ := guardO h
 obtain ⟨A62, c63, _, hr, H⟩ := Hp.appendRd (kd := kByte) (xs := []) (ys := (a0.L.getD (a1 : Int).toNat [])) (H) 0 rfl (F.t 55 rfl) (F.t 62 rfl) Try.underlying29 ti5 rfl (by decide) (by decide) c61
 rw [List.nil_append] at hr H
 refine qw F (hr _ _ _ _ _) fun a F => ?_
 refine as_ F rfl fun a F => ?_
 refine as_ F (v := .int .i64 0) rfl fun a F => ?_
 refine rgend ?_
 replace F := F.only [5, 4] (l' := [(5, _), (4, _)]) rfl
 refine wp_ret ?_
 replace H := Hp.closeO_ref15_Disk (x := a0) (H.f4.f4.f4.f4)
 try dsimp only at h
 obtain ⟨rfl, rfl⟩ := Prod.mk.inj (Option.some.inj h)
 exact RET _ _ (ret2 F rfl rfl rfl ⟨_, rfl, A62, c63, rfl, H.px2.px1.px0.f1⟩)
def ref15_Disk_Write_f (a0 : ref15_Disk) (a1 : Int) (a2 : List Int) : Option (Int × ref15_Disk) :=
 ((ref15_Disk_call_f a0).bind fun (x1, x2) => (if x1 = true then (if (a2.length : Int) ≠ 64 then some (1, x2) else (if a1 < 0 then some (3, x2) else (if a1 ≥ (x2.L.length : Int) then some (3, x2) else (if (0 + a2.length) * 1 ≤ 140737488355328 then (if (x2.P.length + 1) * 32 ≤ 140737488355328 then some ((0, (⟨x2.L, x2.Torn, (x2.P ++ ([(⟨a1, a2⟩ : ref15_Write)])), x2.Fused⟩ : ref15_Disk))) else none) else none)))) else some (42, x2)))
theorem ref15_Disk_Write_ok {w0 w : World} {ps : List PF} {fs : List SF} {a0 : ref15_Disk} {g0_ : Nat} {a1 : Int} {a2 : List Int} {A2_ : Option Addr} {c2_ : Nat} {r0 : Int} {s0 : ref15_Disk} (H : Hp w0 (rd kByte A2_ c2_ a2 :: ps) (obj_ref15_Disk g0_ a0 :: fs) w) (h : ref15_Disk_Write_f a0 a1 a2 = some (r0, s0)) :
  Calls Try.prog 28 [pt g0_, .int .i64 a1, .slice A2_ a2.length c2_].toArray w fun e w' => ∃ v, e = .returned v ∧ v = .int .i64 r0 ∧ Hp w0 ps (obj_ref15_Disk g0_ s0 :: fs) w' := by
 refine enter [pt g0_, .int .i64 a1, .slice A2_ a2.length c2_] 38 Try.func28 fun Q a NP RET NRM F => ?_
 replace NP := np NP
 unfold ref15_Disk_Write_f at h
 refine rg ?_
 refine as_ F (v := .int .i64 0) rfl fun a F => ?_
 refine rgend ?_
 refine wp_seq ?_
 refine rg ?_
 refine mv F rfl fun a F => ?_
 obtain ⟨⟨x1, x2⟩, e3, h⟩ := Option.bind_eq_some_iff.1 h
 try dsimp only at h
 refine ls (call F Try.func56 (ref15_Disk_call_ok (H) e3) rfl rfl fun v w hR a F => ?_)
 obtain ⟨rfl, H⟩ := hR
 refine qw F (r_not (F.t 8 rfl)) fun a F => ?_
 refine rgend ?_
 by_cases c4 : x1 = true
 ·rw [if_pos c4] at h
  rw [c4] at F
  refine wp_cond_false (F.ev rfl) ?_
  refine wp_skip ?_
  refine wp_seq ?_
  refine rg ?_
  refine mv F rfl fun a F => ?_
  refine qw F (r_len (F.t 10 rfl) Try.underlying29) fun a F => ?_
  refine qw F (r_ne (F.t 11 rfl) (F.k (.int .i64 64))) fun a F => ?_
  refine rgend ?_
  replace F := F.only [12, 0, 1, 2] (l' := [(12, _), (0, _), (1, _), (2, _)]) rfl
  by_cases c5 : (a2.length : Int) ≠ 64
  ·rw [if_pos c5] at h
   rw [decide_eq_true c5] at F
   refine wp_cond_true (F.ev rfl) ?_
   refine rg ?_
   refine as_ F (v := .int .i64 1) rfl fun a F => ?_
   refine rgend ?_
   replace F := F.only [6] (l' := [(6, _)]) rfl
   refine wp_ret ?_
   try dsimp only at h
   obtain ⟨rfl, rfl⟩ := Prod.mk.inj (Option.some.inj h)
   exact RET _ _ (ret1 F rfl rfl ⟨_, rfl, rfl, H.px0⟩)
  rw [if_neg c5] at h
  rw [decide_eq_false c5] at F
  refine wp_cond_false (F.ev rfl) ?_
  refine wp_skip ?_
  refine wp_seq ?_
  refine rg ?_
  refine mv F rfl fun a F => ?_
  refine qw F (r_lt (F.t 13 rfl) (F.k (.int .i64 0))) fun a F => ?_
  refine mv F rfl fun a F => ?_
  by_cases c6 : a1 < 0
  ·rw [if_pos c6] at h
   rw [decide_eq_true c6] at F
   iterate 7 refine of_ F fun a F => ?_
   refine qw F (r_pickT (F.t 15 rfl) (F.k (.bool true))) fun a F => ?_
   refine rgend ?_
   replace F := F.only [23, 0, 1, 2] (l' := [(23, _), (0, _), (1, _), (2, _)]) rfl
   refine wp_cond_true (F.ev rfl) ?_
   refine rg ?_
   refine as_ F (v := .int .i64 3) rfl fun a F => ?_
   refine rgend ?_
   replace F := F.only [6] (l' := [(6, _)]) rfl
   refine wp_ret ?_
   try dsimp only at h
   obtain ⟨rfl, rfl⟩ := Prod.mk.inj (Option.some.inj h)
   exact RET _ _ (ret1 F rfl rfl ⟨_, rfl, rfl, H.px0⟩)
  rw [if_neg c6] at h
  rw [decide_eq_false c6] at F
  iterate 2 refine mv F rfl fun a F => ?_
  refine qw F (r_nc (F.t 17 rfl)) fun a F => ?_
  refine qw F (r_fa (off := 0) (F.t 18 rfl) fa88_0) fun a F => ?_
  obtain ⟨A7, c8, A9, c10, A11, c12, H⟩ := Hp.openO_ref15_Disk (H)
  refine qw F (r_ld (F.t 19 rfl) (cel_cell (o := 0) (H.cell 0 rfl) rfl) one30) fun a F => ?_
  refine qw F (r_len (F.t 20 rfl) Try.underlying30) fun a F => ?_
  refine qw F (r_ge (F.t 16 rfl) (F.t 21 rfl)) fun a F => ?_
  refine qw F (r_pickF (F.t 15 rfl) (F.t 22 rfl)) fun a F => ?_
  refine rgend ?_
  replace F := F.only [23, 0, 1, 2] (l' := [(23, _), (0, _), (1, _), (2, _)]) rfl
  by_cases c13 : a1 ≥ (x2.L.length : Int)
  ·rw [if_pos c13] at h
   rw [decide_eq_true c13] at F
   refine wp_cond_true (F.ev rfl) ?_
   refine rg ?_
   refine as_ F (v := .int .i64 3) rfl fun a F => ?_
   refine rgend ?_
   replace F := F.only [6] (l' := [(6, _)]) rfl
   refine wp_ret ?_
   replace H := Hp.closeO_ref15_Disk (x := x2) (H)
   try dsimp only at h
   obtain ⟨rfl, rfl⟩ := Prod.mk.inj (Option.some.inj h)
   exact RET _ _ (ret1 F rfl rfl ⟨_, rfl, rfl, H.px0⟩)
  rw [if_neg c13] at h
  rw [decide_eq_false c13] at F
  refine wp_cond_false (F.ev rfl) ?_
  refine wp_skip ?_
  refine wp_seq ?_
  replace H := H.drew
  have HS := H.fx3.fx2.fx1
  refine dr (fun w => Hp w0 (rd kByte A2_ c2_ a2 :: ps) (cel g0_ [.slice A7 x2.L.length c8, .slice A9 x2.Torn.length c10, .slice A11 x2.P.length c12, .int .i64 x2.Fused] 88 :: fs) w) _ (by kernel_rfl) ?_ (n := 15)
  refine dk 0 F rfl NP HS (fun w S => (r_mv (F.t 0 rfl))) fun a F => ?_
  refine dk 1 F rfl NP HS (fun w S => (r_mv (F.t 0 rfl))) fun a F => ?_
  refine dk 2 F rfl NP HS (fun w S => (r_nc (F.t 25 rfl))) fun a F => ?_
  refine dk 3 F rfl NP HS (fun w S => (r_fa (off := 2) (F.t 26 rfl) fa88_2)) fun a F => ?_
  refine dk 4 F rfl NP HS (fun w S => (r_ld (F.t 27 rfl) (cel_cell (o := 2) (S.cell 0 rfl) rfl) one86)) fun a F => ?_
  refine dk 5 F rfl NP HS (fun w S => (r_mv (F.t 1 rfl))) fun a F => ?_
  refine dk 7 F rfl NP HS (fun w S => (r_mv (F.t 2 rfl))) fun a F => ?_
  refine d1 6 rfl (by kernel_rfl) (lbs F H (e := 5) (vs := []) (cs := []) rfl (fun w => by kernel_rfl) fun g14 w a H F => ?_)
  have HS := H.fx4.fx3.fx2.fx0
  refine kg _ HS (fun w S => S) ?_
  replace H := Hp.litOwn (kd := kByte) (xs := []) (H) (SayL.nil) (Nat.le_of_ble_eq_true rfl)
  obtain ⟨c15, h⟩ := guardO h
  obtain ⟨A16, c17, _, hr, H⟩ := Hp.appendRd (kd := kByte) (xs := []) (ys := a2) (H) 0 rfl (F.t 30 rfl) (F.t 31 rfl) Try.underlying29 ti5 rfl (by decide) (by decide) c15
  rw [List.nil_append] at hr H
  refine d1 8 rfl (by kernel_rfl) (qv F (hr _ _ _ _ _) fun a F => ?_)
  have HS := H.fx4.fx3.fx2.fx0
  refine kg _ HS (fun w S => S) ?_
  refine dk 9 F rfl NP HS (fun w S => (r_bd F (vs := [(0, .int .i64 a1), (1, .slice A16 a2.length c17)]) (cs := [.int .i64 a1, .slice A16 a2.length c17]) rfl (fun w => by kernel_rfl))) fun a F => ?_
  replace H := (H).freeze
  have HS := H.fx3.fx2.fx1
  refine dmoreH HS (fun w S => S.px0) ?_
  refine d1 10 rfl (by kernel_rfl) (lbs F H (e := 96) (vs := [(0, .agg #[.int .i64 a1, .slice A16 a2.length c17])]) (cs := [.int .i64 a1, .slice A16 a2.length c17]) rfl (fun w => by kernel_rfl) fun g18 w a H F => ?_)
  have HS := H.fx4.fx3.fx2.fx0
  refine kg _ HS (fun w S => S) ?_
  obtain ⟨c19, h⟩ := guardO h
  obtain ⟨A20, c21, _, hr, H⟩ := Hp.appendCelL (kd := k_ref15_Write) (xs := x2.P) (ys := [(⟨a1, a2⟩ : ref15_Write)]) (H.f3.f3.f3.f3.f4) (F.t 28 rfl) (F.t 34 rfl) Try.underlying86 ti96 rfl (by decide) (by decide) rfl ((SayL.cons (kd := k_ref15_Write) (c1 := [.int .i64 a1, .slice A16 a2.length c17]) (y := (⟨a1, a2⟩ : ref15_Write)) (fun Z hp => ⟨A16, c17, rfl, pat hp 0 rfl⟩) SayL.nil)) c19
  refine d1 11 rfl (by kernel_rfl) (qv F (hr _ _ _ _ _) fun a F => ?_)
  have HS := H.fx3.fx2.fx0
  refine kg _ HS (fun w S => S) ?_
  refine dk 12 F rfl NP HS (fun w S => (r_nc (F.t 24 rfl))) fun a F => ?_
  refine dk 13 F rfl NP HS (fun w S => (r_fa (off := 2) (F.t 36 rfl) fa88_2)) fun a F => ?_
  obtain ⟨_, hr, H⟩ := Hp.store (t := 86) (o := 2) (n := 1) (vs := [.slice A20 ((x2.P ++ ([(⟨a1, a2⟩ : ref15_Write)]))).length c21]) (cs' := [.slice A7 x2.L.length c8, .slice A9 x2.Torn.length c10, .slice A20 ((x2.P ++ ([(⟨a1, a2⟩ : ref15_Write)]))).length c21, .int .i64 x2.Fused]) (H.f3.f3.f2.f3) (F.t 37 rfl) (F.t 35 rfl) rfl sz86 rfl (Nat.le_of_ble_eq_true rfl) rfl rfl
  refine d1 14 rfl (by kernel_rfl) (qn F (.inl rfl) (hr _ _ _ _) fun a F => ?_)
  have HS := H.fx3.fx2.fx1
  refine kga (by kernel_rfl) HS ?_
  refine ddone (by kernel_rfl) ?_
  replace F := F.only [] (l' := []) rfl
  refine rg ?_
  refine as_ F (v := .int .i64 0) rfl fun a F => ?_
  refine rgend ?_
  refine wp_ret ?_
  replace H := Hp.closeO_ref15_Disk (x := (⟨x2.L, x2.Torn, (x2.P ++ ([(⟨a1, a2⟩ : ref15_Write)])), x2.Fused⟩ : ref15_Disk)) (H.f1.f3.f3.f3)
  try dsimp only at h
  obtain ⟨rfl, rfl⟩ := Prod.mk.inj (Option.some.inj h)
  exact RET _ _ (ret1 F rfl rfl ⟨_, rfl, rfl, H.px1.px0⟩)
 rw [if_neg c4] at h
 rw [Bool.eq_false_iff.2 c4] at F
 refine wp_cond_true (F.ev rfl) ?_
 refine rg ?_
 refine as_ F (v := .int .i64 42) rfl fun a F => ?_
 refine rgend ?_
 replace F := F.only [6] (l' := [(6, _)]) rfl
 refine wp_ret ?_
 try dsimp only at h
 obtain ⟨rfl, rfl⟩ := Prod.mk.inj (Option.some.inj h)
 exact RET _ _ (ret1 F rfl rfl ⟨_, rfl, rfl, H.px0⟩)
def ref15_Disk_Sync_b0 : (Int × ref15_Disk) → Option (Int × ref15_Disk ⊕ ref15_Disk)
 | (x5, x6) => (if x5 < (x6.P.length : Int) then (if 0 ≤ x5 ∧ x5 < (x6.P.length : Int) then ((ref15_Disk_laid_f x6 ((x6.P.getD (x5 : Int).toNat (⟨0, []⟩ : ref15_Write)))).bind fun x24 => some (.inl (IntKind.i64.wrap (x5 + 1), x24))) else none) else some (.inr x6))
def ref15_Disk_Sync_f (a0 : ref15_Disk) : Option (Int × ref15_Disk) :=
 ((ref15_Disk_call_f a0).bind fun (x1, x2) => (if x1 = true then ((lp ref15_Disk_Sync_b0 (0, x2)).bind fun x7 => some ((0, (⟨x7.L, x7.Torn, [], x7.Fused⟩ : ref15_Disk)))) else some (42, x2)))
theorem ref15_Disk_Sync_ok {w0 w : World} {ps : List PF} {fs : List SF} {a0 : ref15_Disk} {g0_ : Nat} {r0 : Int} {s0 : ref15_Disk} (H : Hp w0 ps (obj_ref15_Disk g0_ a0 :: fs) w) (h : ref15_Disk_Sync_f a0 = some (r0, s0)) :
  Calls Try.prog 30 [pt g0_].toArray w fun e w' => ∃ v, e = .returned v ∧ v = .int .i64 r0 ∧ Hp w0 ps (obj_ref15_Disk g0_ s0 :: fs) w' := by
 refine enter [pt g0_] 28 Try.func30 fun Q a NP RET NRM F => ?_
 replace NP := np NP
 unfold ref15_Disk_Sync_f at h
 refine rg ?_
 refine as_ F (v := .int .i64 0) rfl fun a F => ?_
 refine rgend ?_
 refine wp_seq ?_
 refine rg ?_
 refine mv F rfl fun a F => ?_
 obtain ⟨⟨x1, x2⟩, e3, h⟩ := Option.bind_eq_some_iff.1 h
 try dsimp only at h
 refine ls (call F Try.func56 (ref15_Disk_call_ok (H) e3) rfl rfl fun v w hR a F => ?_)
 obtain ⟨rfl, H⟩ := hR
 refine qw F (r_not (F.t 5 rfl)) fun a F => ?_
 refine rgend ?_
 by_cases c4 : x1 = true
 ·rw [if_pos c4] at h
  rw [c4] at F
  refine wp_cond_false (F.ev rfl) ?_
  refine wp_skip ?_
  refine wp_seq ?_
  refine rg ?_
  refine as_ F (v := .int .i64 0) rfl fun a F => ?_
  refine rgend ?_
  replace F := F.only [3, 0] (l' := [(3, _), (0, _)]) rfl
  obtain ⟨o_7, k_7, h⟩ := Option.bind_eq_some_iff.1 h
  refine cut (fun a w => ∃ (x7 : ref15_Disk), x7 = o_7 ∧ Fr 28 [] [(0, pt g0_)] a ∧ Hp w0 ps (obj_ref15_Disk g0_ x7 :: fs) w) (wp_block ?_) ?_
  ·refine wloop ref15_Disk_Sync_b0 (fun (s : Int × ref15_Disk) a w => Fr 28 [] [(0, pt g0_), (3, .int .i64 s.1)] a ∧ Hp w0 ps (obj_ref15_Disk g0_ s.2 :: fs) w) k_7 ⟨F.only [0, 3] rfl, H⟩ ?_
   rintro ⟨x5, x6⟩ a w q_7 j_7 u_7 ⟨F, H⟩
   unfold ref15_Disk_Sync_b0 at j_7
   try dsimp only at j_7 F H
   refine wp_seq ?_
   refine rg ?_
   iterate 2 refine mv F rfl fun a F => ?_
   refine qw F (r_nc (F.t 8 rfl)) fun a F => ?_
   refine qw F (r_fa (off := 2) (F.t 9 rfl) fa88_2) fun a F => ?_
   obtain ⟨A9, c10, A11, c12, A13, c14, H⟩ := Hp.openO_ref15_Disk (H)
   refine qw F (r_ld (F.t 10 rfl) (cel_cell (o := 2) (H.cell 0 rfl) rfl) one86) fun a F => ?_
   refine qw F (r_len (F.t 11 rfl) Try.underlying86) fun a F => ?_
   refine qw F (r_lt (F.t 7 rfl) (F.t 12 rfl)) fun a F => ?_
   refine rgend ?_
   replace F := F.only [13, 0, 3] (l' := [(13, _), (0, _), (3, _)]) rfl
   by_cases c15 : x5 < (x6.P.length : Int)
   ·rw [if_pos c15] at j_7
    rw [decide_eq_true c15] at F
    refine wp_cond_true (F.ev rfl) ?_
    refine wp_skip ?_
    refine wp_seq ?_
    refine wp_block ?_
    refine wp_region_lit ?_
    iterate 2 refine mv F rfl fun a F => ?_
    refine qw F (r_nc (F.t 17 rfl)) fun a F => ?_
    refine qw F (r_fa (off := 2) (F.t 18 rfl) fa88_2) fun a F => ?_
    refine qw F (r_ld (F.t 19 rfl) (cel_cell (o := 2) (H.cell 0 rfl) rfl) one86) fun a F => ?_
    refine mv F rfl fun a F => ?_
    obtain ⟨c16, j_7⟩ := guardO j_7
    obtain ⟨g17, s18, hA, hq20, hl19, H⟩ := H.ixOwn2 (⟨0, []⟩ : ref15_Write) 3 rfl (F.t 20 rfl) (F.t 21 rfl) Try.underlying86 sz96 (by decide) c16.1 c16.2
    have hA21 := hA
    obtain ⟨A22, c23, rfl, H⟩ := H.open_ref15_Write 0 rfl
    refine qw F (hq20 _ _ _ _ _ _) fun a F => ?_
    refine qw F (r_ldA (F.t 22 rfl) hl19 agg96 rfl) fun a F => ?_
    replace H := Hp.closeO_ref15_Disk (x := x6) (H)
    obtain ⟨x24, e25, j_7⟩ := Option.bind_eq_some_iff.1 j_7
    try dsimp only at j_7
    refine ls (call F Try.func60 (ref15_Disk_laid_ok (a1 := (x6.P.getD (x5 : Int).toNat (⟨0, []⟩ : ref15_Write))) (H.p0) e25) rfl rfl fun v w hR a F => ?_)
    obtain ⟨rfl, H⟩ := hR
    refine wpList_nil ?_
    replace F := F.only [0, 3] (l' := [(0, _), (3, _)]) rfl
    refine wp_region_lit ?_
    refine mv F rfl fun a F => ?_
    refine qw F (r_add (F.t 14 rfl) (F.k (.int .i64 1))) fun a F => ?_
    refine as_ F rfl fun a F => ?_
    refine wpList_nil ?_
    try dsimp only at j_7
    obtain rfl := Option.some.inj j_7
    exact ⟨_, rfl, F.only [0, 3] rfl, H.px1.px0⟩
   rw [if_neg c15] at j_7
   rw [decide_eq_false c15] at F
   refine wp_cond_false (F.ev rfl) ?_
   refine wp_exit ?_
   replace H := Hp.closeO_ref15_Disk (x := x6) (H)
   try dsimp only at j_7
   obtain rfl := Option.some.inj j_7
   obtain rfl := u_7 _ rfl
   repeat (with_reducible refine exT ?_)
   with_reducible refine exB ?_
   exact ⟨_, rfl, F.only [0] rfl, H⟩
  rintro a w ⟨x7, rfl, F, H⟩
  try dsimp only at h F H
  refine rg ?_
  refine mv F rfl fun a F => ?_
  refine qw F (r_nc (F.t 25 rfl)) fun a F => ?_
  refine qw F (r_fa (off := 2) (F.t 26 rfl) fa88_2) fun a F => ?_
  obtain ⟨A26, c27, A28, c29, A30, c31, H⟩ := Hp.openO_ref15_Disk (H)
  refine sto F [.slice none 0 0] [.slice A26 x7.L.length c27, .slice A28 x7.Torn.length c29, .slice none 0 0, .int .i64 x7.Fused] H rfl rfl sz86 fun w a H F => ?_
  refine rgend ?_
  replace F := F.only [] (l' := []) rfl
  refine rg ?_
  refine as_ F (v := .int .i64 0) rfl fun a F => ?_
  refine rgend ?_
  refine wp_ret ?_
  replace H := H.nilOwn k_ref15_Write 96
  replace H := Hp.closeO_ref15_Disk (x := (⟨x7.L, x7.Torn, [], x7.Fused⟩ : ref15_Disk)) (H.f4.f1.f4.f4.f4)
  try dsimp only at h
  obtain ⟨rfl, rfl⟩ := Prod.mk.inj (Option.some.inj h)
  exact RET _ _ (ret1 F rfl rfl ⟨_, rfl, rfl, H.fx1⟩)
 rw [if_neg c4] at h
 rw [Bool.eq_false_iff.2 c4] at F
 refine wp_cond_true (F.ev rfl) ?_
 refine rg ?_
 refine as_ F (v := .int .i64 42) rfl fun a F => ?_
 refine rgend ?_
 replace F := F.only [2] (l' := [(2, _)]) rfl
 refine wp_ret ?_
 try dsimp only at h
 obtain ⟨rfl, rfl⟩ := Prod.mk.inj (Option.some.inj h)
 exact RET _ _ (ret1 F rfl rfl ⟨_, rfl, rfl, H⟩)
def ref15_Disk_Fuse_f (a0 : ref15_Disk) (a1 : Int) : Option (ref15_Disk) :=
 some (((⟨a0.L, a0.Torn, a0.P, max a1 (-1)⟩ : ref15_Disk)))
theorem ref15_Disk_Fuse_ok {w0 w : World} {ps : List PF} {fs : List SF} {a0 : ref15_Disk} {g0_ : Nat} {a1 : Int} {s0 : ref15_Disk} (H : Hp w0 ps (obj_ref15_Disk g0_ a0 :: fs) w) (h : ref15_Disk_Fuse_f a0 a1 = some s0) :
  Calls Try.prog 73 [pt g0_, .int .i64 a1].toArray w fun e w' => ∃ v, e = .returned v ∧ v = .tuple #[] ∧ Hp w0 ps (obj_ref15_Disk g0_ s0 :: fs) w' := by
 refine enter [pt g0_, .int .i64 a1] 9 Try.func73 fun Q a NP RET NRM F => ?_
 replace NP := np NP
 unfold ref15_Disk_Fuse_f at h
 refine wp_region_lit ?_
 iterate 2 refine mv F rfl fun a F => ?_
 refine qw F (r_max (F.t 5 rfl) (F.k (.int .i64 (-1)))) fun a F => ?_
 refine qw F (r_nc (F.t 4 rfl)) fun a F => ?_
 refine qw F (r_fa (off := 3) (F.t 7 rfl) fa88_3) fun a F => ?_
 obtain ⟨A1, c2, A3, c4, A5, c6, H⟩ := Hp.openO_ref15_Disk (H)
 refine sto F [.int .i64 (max a1 (-1))] [.slice A1 a0.L.length c2, .slice A3 a0.Torn.length c4, .slice A5 a0.P.length c6, .int .i64 (max a1 (-1))] H rfl rfl sz3 fun w a H F => ?_
 refine wpList_nil ?_
 replace F := F.only [] (l' := []) rfl
 replace H := Hp.closeO_ref15_Disk (x := (⟨a0.L, a0.Torn, a0.P, max a1 (-1)⟩ : ref15_Disk)) (H)
 try dsimp only at h
 obtain rfl := Option.some.inj h
 exact NRM _ _ (ret0 F rfl ⟨_, rfl, rfl, H⟩)
def ref15_Disk_Crash_b0 (a1 : List Bool) (a2 : Int) : (Int × ref15_Disk) → Option (Int × ref15_Disk ⊕ ref15_Disk)
 | (x1, x2) => (if x1 < (x2.P.length : Int) then (((if x1 = a2 then (if 0 ≤ x1 ∧ x1 < (x2.P.length : Int) then (if 0 ≤ (x2.P.getD (x1 : Int).toNat (⟨0, []⟩ : ref15_Write)).At ∧ (x2.P.getD (x1 : Int).toNat (⟨0, []⟩ : ref15_Write)).At < (x2.Torn.length : Int) then some (((⟨x2.L, (x2.Torn.set ((x2.P.getD (x1 : Int).toNat (⟨0, []⟩ : ref15_Write)).At : Int).toNat true), x2.P, x2.Fused⟩ : ref15_Disk))) else none) else none) else (((if x1 < (a1.length : Int) then (if 0 ≤ x1 ∧ x1 < (a1.length : Int) then some (((a1.getD (x1 : Int).toNat false))) else none) else some false) : Option (Bool)).bind fun x28 => (((if x28 = true then (if 0 ≤ x1 ∧ x1 < (x2.P.length : Int) then ((ref15_Disk_laid_f x2 ((x2.P.getD (x1 : Int).toNat (⟨0, []⟩ : ref15_Write)))).bind fun x52 => some x52) else none) else some x2) : Option (ref15_Disk)).bind fun x35 => some x35))) : Option (ref15_Disk)).bind fun x12 => some (.inl (IntKind.i64.wrap (x1 + 1), x12))) else some (.inr x2))
def ref15_Disk_Crash_f (a0 : ref15_Disk) (a1 : List Bool) (a2 : Int) : Option (ref15_Disk) :=
 ((lp (ref15_Disk_Crash_b0 a1 a2) (0, a0)).bind fun x3 => some (((⟨x3.L, x3.Torn, [], (-1)⟩ : ref15_Disk))))
theorem ref15_Disk_Crash_ok {w0 w : World} {ps : List PF} {fs : List SF} {a0 : ref15_Disk} {g0_ : Nat} {a1 : List Bool} {A1_ : Option Addr} {c1_ : Nat} {a2 : Int} {s0 : ref15_Disk} (H : Hp w0 (rd kBool A1_ c1_ a1 :: ps) (obj_ref15_Disk g0_ a0 :: fs) w) (h : ref15_Disk_Crash_f a0 a1 a2 = some s0) :
  Calls Try.prog 74 [pt g0_, .slice A1_ a1.length c1_, .int .i64 a2].toArray w fun e w' => ∃ v, e = .returned v ∧ v = .tuple #[] ∧ Hp w0 ps (obj_ref15_Disk g0_ s0 :: fs) w' := by
 refine enter [pt g0_, .slice A1_ a1.length c1_, .int .i64 a2] 57 Try.func74 fun Q a NP RET NRM F => ?_
 replace NP := np NP
 unfold ref15_Disk_Crash_f at h
 refine wp_seq ?_
 refine rg ?_
 refine as_ F (v := .int .i64 0) rfl fun a F => ?_
 refine rgend ?_
 obtain ⟨o_3, k_3, h⟩ := Option.bind_eq_some_iff.1 h
 refine cut (fun a w => ∃ (x3 : ref15_Disk), x3 = o_3 ∧ Fr 57 [] [(0, pt g0_)] a ∧ Hp w0 ps (obj_ref15_Disk g0_ x3 :: fs) w) (wp_block ?_) ?_
 ·refine wloop (ref15_Disk_Crash_b0 a1 a2) (fun (s : Int × ref15_Disk) a w => Fr 57 [] [(0, pt g0_), (1, .slice A1_ a1.length c1_), (2, .int .i64 a2), (6, .int .i64 s.1)] a ∧ Hp w0 (rd kBool A1_ c1_ a1 :: ps) (obj_ref15_Disk g0_ s.2 :: fs) w) k_3 ⟨F.only [0, 1, 2, 6] rfl, H⟩ ?_
  rintro ⟨x1, x2⟩ a w q_3 j_3 u_3 ⟨F, H⟩
  unfold ref15_Disk_Crash_b0 at j_3
  try dsimp only at j_3 F H
  refine wp_seq ?_
  refine rg ?_
  iterate 2 refine mv F rfl fun a F => ?_
  refine qw F (r_nc (F.t 8 rfl)) fun a F => ?_
  refine qw F (r_fa (off := 2) (F.t 9 rfl) fa88_2) fun a F => ?_
  obtain ⟨A5, c6, A7, c8, A9, c10, H⟩ := Hp.openO_ref15_Disk (H)
  refine qw F (r_ld (F.t 10 rfl) (cel_cell (o := 2) (H.cell 0 rfl) rfl) one86) fun a F => ?_
  refine qw F (r_len (F.t 11 rfl) Try.underlying86) fun a F => ?_
  refine qw F (r_lt (F.t 7 rfl) (F.t 12 rfl)) fun a F => ?_
  refine rgend ?_
  replace F := F.only [13, 0, 1, 2, 6] (l' := [(13, _), (0, _), (1, _), (2, _), (6, _)]) rfl
  by_cases c11 : x1 < (x2.P.length : Int)
  ·rw [if_pos c11] at j_3
   rw [decide_eq_true c11] at F
   refine wp_cond_true (F.ev rfl) ?_
   refine wp_skip ?_
   refine wp_seq ?_
   refine wp_block ?_
   refine rg ?_
   iterate 2 refine mv F rfl fun a F => ?_
   refine qw F (r_eq (F.t 16 rfl) (F.t 17 rfl)) fun a F => ?_
   refine rgend ?_
   obtain ⟨o_12, k_12, j_3⟩ := Option.bind_eq_some_iff.1 j_3
   refine cut (fun a w => ∃ (x12 : ref15_Disk), x12 = o_12 ∧ Fr 57 [] [(0, pt g0_), (1, .slice A1_ a1.length c1_), (2, .int .i64 a2), (6, .int .i64 x1)] a ∧ Hp w0 (rd kBool A1_ c1_ a1 :: ps) (obj_ref15_Disk g0_ x12 :: fs) w) ?_ ?_
   ·skip
    by_cases c14 : x1 = a2
    ·rw [if_pos c14] at k_12
     rw [decide_eq_true c14] at F
     refine wp_cond_true (F.ev rfl) ?_
     replace H := H.drew
     have HS := H.fx2.fx1
     refine dr (fun w => Hp w0 (rd kBool A1_ c1_ a1 :: ps) (cel g0_ [.slice A5 x2.L.length c6, .slice A7 x2.Torn.length c8, .slice A9 x2.P.length c10, .int .i64 x2.Fused] 88 :: own k_ref15_Write 96 A9 c10 x2.P :: fs) w) _ (by kernel_rfl) ?_ (n := 14)
     refine dk 0 F rfl NP HS (fun w S => (r_mv (F.t 0 rfl))) fun a F => ?_
     refine dk 1 F rfl NP HS (fun w S => (r_nc (F.t 19 rfl))) fun a F => ?_
     refine dk 2 F rfl NP HS (fun w S => (r_fa (off := 1) (F.t 20 rfl) fa88_1)) fun a F => ?_
     refine dk 3 F rfl NP HS (fun w S => (r_ld (F.t 21 rfl) (cel_cell (o := 1) (S.cell 0 rfl) rfl) one33)) fun a F => ?_
     refine dk 4 F rfl NP HS (fun w S => (r_mv (F.t 0 rfl))) fun a F => ?_
     refine dk 5 F rfl NP HS (fun w S => (r_nc (F.t 23 rfl))) fun a F => ?_
     refine dk 6 F rfl NP HS (fun w S => (r_fa (off := 2) (F.t 24 rfl) fa88_2)) fun a F => ?_
     refine dk 7 F rfl NP HS (fun w S => (r_ld (F.t 25 rfl) (cel_cell (o := 2) (S.cell 0 rfl) rfl) one86)) fun a F => ?_
     refine dk 8 F rfl NP HS (fun w S => (r_mv (F.t 6 rfl))) fun a F => ?_
     obtain ⟨c15, k_12⟩ := guardO k_12
     obtain ⟨g16, s17, hA, hq19, hl18, H⟩ := H.ixOwn2 (⟨0, []⟩ : ref15_Write) 3 rfl (F.t 26 rfl) (F.t 27 rfl) Try.underlying86 sz96 (by decide) c15.1 c15.2
     have hA20 := hA
     obtain ⟨A21, c22, rfl, H⟩ := H.open_ref15_Write 0 rfl
     have HS := H.fx2.fx1
     refine dmoreH HS (fun w S => S.px1.px0) ?_
     refine dk 9 F rfl NP HS (fun w S => (hq19 _ _ _ _ _ _)) fun a F => ?_
     refine dk 10 F rfl NP HS (fun w S => (r_fa (off := 0) (F.t 28 rfl) fa96_0)) fun a F => ?_
     refine dk 11 F rfl NP HS (fun w S => (by obtain ⟨cs, Z, hrg, hok⟩ := S.ownAt2 (⟨0, []⟩ : ref15_Write) (j := x1) 1 rfl hA20 c15.1 c15.2; obtain ⟨_, _, rfl, _⟩ := hok; exact r_ld (F.t 29 rfl) (range_cell (j := 0) hrg rfl) one3)) fun a F => ?_
     obtain ⟨c23, k_12⟩ := guardO k_12
     obtain ⟨g24, s25, hA, hq27, hl26, H⟩ := H.ixOwn2 false 2 rfl (F.t 22 rfl) (F.t 30 rfl) Try.underlying33 sz4 (by decide) c23.1 c23.2
     cases hA
     obtain rfl := H.says_bool 0 rfl
     have HS := H.fx2.fx1
     refine dmoreH HS (fun w S => S.px0) ?_
     refine dk 12 F rfl NP HS (fun w S => (hq27 _ _ _ _ _ _)) fun a F => ?_
     obtain ⟨_, hr, H⟩ := Hp.setOwn (kd := kBool) (xs := x2.Torn) (j := ((x2.P.getD (x1 : Int).toNat (⟨0, []⟩ : ref15_Write)).At : Int).toNat) (x1 := true) (H.f3.f2.f2.f3) (F.t 31 rfl) (F.k (.bool true)) rfl sz4 (by have := c23; omega) (fun Z hp => rfl)
     refine d1 13 rfl (by kernel_rfl) (qn F (.inl rfl) (hr _ _ _ _) fun a F => ?_)
     replace F := F.only [31, 30, 29, 28, 27, 26, 25, 24, 23, 22, 21, 20, 19, 18, 17, 16, 13, 0, 1, 2, 6] (l' := [(31, .pointer (some ⟨g24, ((x2.P.getD (x1 : Int).toNat (⟨0, []⟩ : ref15_Write)).At : Int).toNat * kBool.sz, none⟩)), (30, .int .i64 ((x2.P.getD (x1 : Int).toNat (⟨0, []⟩ : ref15_Write)).At)), (29, .pointer (some ⟨g16, (x1 : Int).toNat * k_ref15_Write.sz + 0, none⟩)), (28, .pointer (some ⟨g16, (x1 : Int).toNat * k_ref15_Write.sz, none⟩)), (27, .int .i64 x1), (26, .slice A9 x2.P.length c10), (25, .pointer (some ⟨g0_, 2, none⟩)), (24, pt g0_), (23, pt g0_), (22, .slice (some ⟨g24, 0, none⟩) ((x2.Torn.set ((x2.P.getD (x1 : Int).toNat (⟨0, []⟩ : ref15_Write)).At : Int).toNat true)).length c8), (21, .pointer (some ⟨g0_, 1, none⟩)), (20, pt g0_), (19, pt g0_), (18, .bool true), (17, .int .i64 a2), (16, .int .i64 x1), (13, .bool true), (0, pt g0_), (1, .slice A1_ a1.length c1_), (2, .int .i64 a2), (6, .int .i64 x1)]) (by (try simp only [List.length_set]); rfl)
     replace H : Hp w0 (says kBool [.bool ((x2.Torn.getD ((x2.P.getD (x1 : Int).toNat (⟨0, []⟩ : ref15_Write)).At : Int).toNat false))] ((x2.Torn.getD ((x2.P.getD (x1 : Int).toNat (⟨0, []⟩ : ref15_Write)).At : Int).toNat false)) :: rd kByte A21 c22 ((x2.P.getD (x1 : Int).toNat (⟨0, []⟩ : ref15_Write)).B) :: says k_ref15_Write [.int .i64 ((x2.P.getD (x1 : Int).toNat (⟨0, []⟩ : ref15_Write)).At), .slice A21 ((x2.P.getD (x1 : Int).toNat (⟨0, []⟩ : ref15_Write)).B).length c22] ((x2.P.getD (x1 : Int).toNat (⟨0, []⟩ : ref15_Write))) :: rd kBool A1_ c1_ a1 :: ps) (own kBool 4 (some ⟨g24, 0, none⟩) c8 ((x2.Torn.set ((x2.P.getD (x1 : Int).toNat (⟨0, []⟩ : ref15_Write)).At : Int).toNat true)) :: cel g0_ [.slice A5 x2.L.length c6, .slice (some ⟨g24, 0, none⟩) ((x2.Torn.set ((x2.P.getD (x1 : Int).toNat (⟨0, []⟩ : ref15_Write)).At : Int).toNat true)).length c8, .slice A9 x2.P.length c10, .int .i64 x2.Fused] 88 :: own (kSlice kByte) 29 A5 c6 x2.L :: own k_ref15_Write 96 A9 c10 x2.P :: fs) _ := (by (try simp only [List.length_set] at H); (try simp only [List.length_set]); exact H)
     have HS := H.fx3.fx2.fx0
     refine kga (by kernel_rfl) HS ?_
     refine ddone (by kernel_rfl) ?_
     replace F := F.only [0, 1, 2, 6] (l' := [(0, _), (1, _), (2, _), (6, _)]) rfl
     replace H := Hp.closeO_ref15_Disk (x := (⟨x2.L, (x2.Torn.set ((x2.P.getD (x1 : Int).toNat (⟨0, []⟩ : ref15_Write)).At : Int).toNat true), x2.P, x2.Fused⟩ : ref15_Disk)) (H.f3.f1.f3.f3)
     try dsimp only at k_12
     obtain rfl := Option.some.inj k_12
     exact ⟨_, rfl, F.only [0, 1, 2, 6] rfl, H.px2.px1.px0⟩
    rw [if_neg c14] at k_12
    rw [decide_eq_false c14] at F
    refine wp_cond_false (F.ev rfl) ?_
    refine wp_seq ?_
    obtain ⟨o_28, k_28, k_12⟩ := Option.bind_eq_some_iff.1 k_12
    refine cut (fun a w => ∃ (x28 : Bool), x28 = o_28 ∧ Fr 57 [] [(0, pt g0_), (1, .slice A1_ a1.length c1_), (2, .int .i64 a2), (6, .int .i64 x1), (41, .bool x28)] a ∧ Hp w0 (rd kBool A1_ c1_ a1 :: ps) (obj_ref15_Disk g0_ x2 :: fs) w) ?_ ?_
    ·skip
     refine wp_region_lit ?_
     iterate 2 refine mv F rfl fun a F => ?_
     refine qw F (r_len (F.t 33 rfl) Try.underlying33) fun a F => ?_
     refine qw F (r_lt (F.t 32 rfl) (F.t 34 rfl)) fun a F => ?_
     refine mv F rfl fun a F => ?_
     by_cases c30 : x1 < (a1.length : Int)
     ·rw [if_pos c30] at k_28
      rw [decide_eq_true c30] at F
      iterate 2 refine mv F rfl fun a F => ?_
      obtain ⟨c31, k_28⟩ := guardO k_28
      obtain ⟨g32, o33, s34, hr, H⟩ := H.ix false 0 rfl (F.t 37 rfl) (F.t 38 rfl) Try.underlying33 sz4 (by decide) c31.1 c31.2
      obtain rfl := H.says_bool 1 rfl
      refine qw F (hr _ _ _ _ _ _) fun a F => ?_
      refine qw F (r_ld (F.t 39 rfl) (range_cell (j := 0) (H.range 0 rfl) rfl) one4) fun a F => ?_
      refine qw F (r_pickT (F.t 36 rfl) (F.t 40 rfl)) fun a F => ?_
      refine wpList_nil ?_
      replace F := F.only [41, 0, 1, 2, 6] (l' := [(41, _), (0, _), (1, _), (2, _), (6, _)]) rfl
      replace H := Hp.closeO_ref15_Disk (x := x2) (H)
      try dsimp only at k_28
      obtain rfl := Option.some.inj k_28
      exact ⟨_, rfl, F.only [0, 1, 2, 6, 41] rfl, H.px1.px0⟩
     rw [if_neg c30] at k_28
     rw [decide_eq_false c30] at F
     iterate 4 refine of_ F fun a F => ?_
     refine qw F (r_pickF (F.t 36 rfl) (F.k (.bool false))) fun a F => ?_
     refine wpList_nil ?_
     replace F := F.only [41, 0, 1, 2, 6] (l' := [(41, _), (0, _), (1, _), (2, _), (6, _)]) rfl
     replace H := Hp.closeO_ref15_Disk (x := x2) (H)
     try dsimp only at k_28
     obtain rfl := Option.some.inj k_28
     exact ⟨_, rfl, F.only [0, 1, 2, 6, 41] rfl, H⟩
    rintro a w ⟨x28, rfl, F, H⟩
    try dsimp only at k_12 F H
    obtain ⟨o_35, k_35, k_12⟩ := Option.bind_eq_some_iff.1 k_12
    refine cut (fun a w => ∃ (x35 : ref15_Disk), x35 = o_35 ∧ Fr 57 [] [(0, pt g0_), (1, .slice A1_ a1.length c1_), (2, .int .i64 a2), (6, .int .i64 x1)] a ∧ Hp w0 (rd kBool A1_ c1_ a1 :: ps) (obj_ref15_Disk g0_ x35 :: fs) w) ?_ ?_
    ·skip
     by_cases c37 : x28 = true
     ·rw [if_pos c37] at k_35
      rw [c37] at F
      refine wp_cond_true (F.ev rfl) ?_
      refine wp_region_lit ?_
      iterate 2 refine mv F rfl fun a F => ?_
      refine qw F (r_nc (F.t 43 rfl)) fun a F => ?_
      refine qw F (r_fa (off := 2) (F.t 44 rfl) fa88_2) fun a F => ?_
      obtain ⟨A38, c39, A40, c41, A42, c43, H⟩ := Hp.openO_ref15_Disk (H)
      refine qw F (r_ld (F.t 45 rfl) (cel_cell (o := 2) (H.cell 0 rfl) rfl) one86) fun a F => ?_
      refine mv F rfl fun a F => ?_
      obtain ⟨c44, k_35⟩ := guardO k_35
      obtain ⟨g45, s46, hA, hq48, hl47, H⟩ := H.ixOwn2 (⟨0, []⟩ : ref15_Write) 3 rfl (F.t 46 rfl) (F.t 47 rfl) Try.underlying86 sz96 (by decide) c44.1 c44.2
      have hA49 := hA
      obtain ⟨A50, c51, rfl, H⟩ := H.open_ref15_Write 0 rfl
      refine qw F (hq48 _ _ _ _ _ _) fun a F => ?_
      refine qw F (r_ldA (F.t 48 rfl) hl47 agg96 rfl) fun a F => ?_
      replace H := Hp.closeO_ref15_Disk (x := x2) (H)
      obtain ⟨x52, e53, k_35⟩ := Option.bind_eq_some_iff.1 k_35
      try dsimp only at k_35
      refine ls (call F Try.func60 (ref15_Disk_laid_ok (a1 := (x2.P.getD (x1 : Int).toNat (⟨0, []⟩ : ref15_Write))) (H.p0) e53) rfl rfl fun v w hR a F => ?_)
      obtain ⟨rfl, H⟩ := hR
      refine wpList_nil ?_
      replace F := F.only [0, 1, 2, 6] (l' := [(0, _), (1, _), (2, _), (6, _)]) rfl
      try dsimp only at k_35
      obtain rfl := Option.some.inj k_35
      exact ⟨_, rfl, F.only [0, 1, 2, 6] rfl, H.px1.px0⟩
     rw [if_neg c37] at k_35
     rw [Bool.eq_false_iff.2 c37] at F
     refine wp_cond_false (F.ev rfl) ?_
     refine wp_skip ?_
     try dsimp only at k_35
     obtain rfl := Option.some.inj k_35
     exact ⟨_, rfl, F.only [0, 1, 2, 6] rfl, H⟩
    rintro a w ⟨x35, rfl, F, H⟩
    try dsimp only at k_12 F H
    try dsimp only at k_12
    obtain rfl := Option.some.inj k_12
    exact ⟨_, rfl, F.only [0, 1, 2, 6] rfl, H⟩
   rintro a w ⟨x12, rfl, F, H⟩
   try dsimp only at j_3 F H
   refine wp_region_lit ?_
   refine mv F rfl fun a F => ?_
   refine qw F (r_add (F.t 14 rfl) (F.k (.int .i64 1))) fun a F => ?_
   refine as_ F rfl fun a F => ?_
   refine wpList_nil ?_
   try dsimp only at j_3
   obtain rfl := Option.some.inj j_3
   exact ⟨_, rfl, F.only [0, 1, 2, 6] rfl, H⟩
  rw [if_neg c11] at j_3
  rw [decide_eq_false c11] at F
  refine wp_cond_false (F.ev rfl) ?_
  refine wp_exit ?_
  replace H := Hp.closeO_ref15_Disk (x := x2) (H)
  try dsimp only at j_3
  obtain rfl := Option.some.inj j_3
  obtain rfl := u_3 _ rfl
  repeat (with_reducible refine exT ?_)
  with_reducible refine exB ?_
  exact ⟨_, rfl, F.only [0] rfl, H.px0⟩
 rintro a w ⟨x3, rfl, F, H⟩
 try dsimp only at h F H
 refine rg ?_
 refine mv F rfl fun a F => ?_
 refine qw F (r_nc (F.t 51 rfl)) fun a F => ?_
 refine qw F (r_fa (off := 2) (F.t 52 rfl) fa88_2) fun a F => ?_
 obtain ⟨A54, c55, A56, c57, A58, c59, H⟩ := Hp.openO_ref15_Disk (H)
 refine sto F [.slice none 0 0] [.slice A54 x3.L.length c55, .slice A56 x3.Torn.length c57, .slice none 0 0, .int .i64 x3.Fused] H rfl rfl sz86 fun w a H F => ?_
 refine rgend ?_
 refine wp_region_lit ?_
 refine mv F rfl fun a F => ?_
 refine qw F (r_nc (F.t 54 rfl)) fun a F => ?_
 refine qw F (r_fa (off := 3) (F.t 55 rfl) fa88_3) fun a F => ?_
 refine sto F [.int .i64 (-1)] [.slice A54 x3.L.length c55, .slice A56 x3.Torn.length c57, .slice none 0 0, .int .i64 (-1)] H rfl rfl sz3 fun w a H F => ?_
 refine wpList_nil ?_
 replace F := F.only [] (l' := []) rfl
 replace H := H.nilOwn k_ref15_Write 96
 replace H := Hp.closeO_ref15_Disk (x := (⟨x3.L, x3.Torn, [], (-1)⟩ : ref15_Disk)) (H.f4.f1.f4.f4.f4)
 try dsimp only at h
 obtain rfl := Option.some.inj h
 exact NRM _ _ (ret0 F rfl ⟨_, rfl, rfl, H.fx1⟩)
def ref15_Disk_Sectors_f (a0 : ref15_Disk) : Option (Int) :=
 some (a0.L.length : Int)
theorem ref15_Disk_Sectors_ok {w0 w : World} {ps : List PF} {fs : List SF} {a0 : ref15_Disk} {g0_ : Nat} {r0 : Int} (H : Hp w0 ps (obj_ref15_Disk g0_ a0 :: fs) w) (h : ref15_Disk_Sectors_f a0 = some r0) :
  Calls Try.prog 63 [pt g0_].toArray w fun e w' => ∃ v, e = .returned v ∧ v = .int .i64 r0 ∧ Hp w0 ps (obj_ref15_Disk g0_ a0 :: fs) w' := by
 refine enter [pt g0_] 8 Try.func63 fun Q a NP RET NRM F => ?_
 replace NP := np NP
 unfold ref15_Disk_Sectors_f at h
 refine rg ?_
 refine as_ F (v := .int .i64 0) rfl fun a F => ?_
 refine rgend ?_
 refine rg ?_
 refine mv F rfl fun a F => ?_
 refine qw F (r_nc (F.t 3 rfl)) fun a F => ?_
 refine qw F (r_fa (off := 0) (F.t 4 rfl) fa88_0) fun a F => ?_
 obtain ⟨A1, c2, A3, c4, A5, c6, H⟩ := Hp.openO_ref15_Disk (H)
 refine qw F (r_ld (F.t 5 rfl) (cel_cell (o := 0) (H.cell 0 rfl) rfl) one30) fun a F => ?_
 refine qw F (r_len (F.t 6 rfl) Try.underlying30) fun a F => ?_
 refine as_ F rfl fun a F => ?_
 refine rgend ?_
 replace F := F.only [2] (l' := [(2, _)]) rfl
 refine wp_ret ?_
 replace H := Hp.closeO_ref15_Disk (x := a0) (H)
 try dsimp only at h
 obtain rfl := Option.some.inj h
 exact RET _ _ (ret1 F rfl rfl ⟨_, rfl, rfl, H⟩)
def ref17_State_f (a0 : List Int) : Option (Bool) :=
 (((if (a0.length : Int) ≥ 1 then some ((decide ((a0.length : Int) ≤ 1600))) else some false) : Option (Bool)).bind fun x1 => some x1)
theorem ref17_State_ok {w0 w : World} {ps : List PF} {fs : List SF} {a0 : List Int} {A0_ : Option Addr} {c0_ : Nat} {r0 : Bool} (H : Hp w0 (rd kByte A0_ c0_ a0 :: ps) fs w) (h : ref17_State_f a0 = some r0) :
  Calls Try.prog 98 [.slice A0_ a0.length c0_].toArray w fun e w' => ∃ v, e = .returned v ∧ v = .bool r0 ∧ Hp w0 ps fs w' := by
 refine enter [.slice A0_ a0.length c0_] 11 Try.func98 fun Q a NP RET NRM F => ?_
 replace NP := np NP
 unfold ref17_State_f at h
 refine rg ?_
 refine as_ F (v := .bool false) rfl fun a F => ?_
 refine rgend ?_
 refine wp_seq ?_
 obtain ⟨o_1, k_1, h⟩ := Option.bind_eq_some_iff.1 h
 refine cut (fun a w => ∃ (x1 : Bool), x1 = o_1 ∧ Fr 11 [] [(2, .bool x1)] a ∧ Hp w0 ps fs w) ?_ ?_
 ·skip
  refine wp_region_lit ?_
  refine mv F rfl fun a F => ?_
  refine qw F (r_len (F.t 3 rfl) Try.underlying29) fun a F => ?_
  refine qw F (r_ge (F.t 4 rfl) (F.k (.int .i64 1))) fun a F => ?_
  refine mv F rfl fun a F => ?_
  by_cases c3 : (a0.length : Int) ≥ 1
  ·rw [if_pos c3] at k_1
   rw [decide_eq_true c3] at F
   refine mv F rfl fun a F => ?_
   refine qw F (r_len (F.t 7 rfl) Try.underlying29) fun a F => ?_
   refine qw F (r_le (F.t 8 rfl) (F.k (.int .i64 1600))) fun a F => ?_
   refine qw F (r_pickT (F.t 6 rfl) (F.t 9 rfl)) fun a F => ?_
   refine as_ F rfl fun a F => ?_
   refine wpList_nil ?_
   replace F := F.only [2] (l' := [(2, _)]) rfl
   try dsimp only at k_1
   obtain rfl := Option.some.inj k_1
   exact ⟨_, rfl, F.only [2] rfl, H.px0⟩
  rw [if_neg c3] at k_1
  rw [decide_eq_false c3] at F
  iterate 3 refine of_ F fun a F => ?_
  refine qw F (r_pickF (F.t 6 rfl) (F.k (.bool false))) fun a F => ?_
  refine as_ F rfl fun a F => ?_
  refine wpList_nil ?_
  replace F := F.only [2] (l' := [(2, _)]) rfl
  try dsimp only at k_1
  obtain rfl := Option.some.inj k_1
  exact ⟨_, rfl, F.only [2] rfl, H.px0⟩
 rintro a w ⟨x1, rfl, F, H⟩
 try dsimp only at h F H
 refine wp_ret ?_
 try dsimp only at h
 obtain rfl := Option.some.inj h
 exact RET _ _ (ret1 F rfl rfl ⟨_, rfl, rfl, H⟩)
def ref17_Entry_f (a0 : List Int) : Option (Bool) :=
 (((if (a0.length : Int) ≥ 1 then some ((decide ((a0.length : Int) ≤ 50))) else some false) : Option (Bool)).bind fun x1 => some x1)
theorem ref17_Entry_ok {w0 w : World} {ps : List PF} {fs : List SF} {a0 : List Int} {A0_ : Option Addr} {c0_ : Nat} {r0 : Bool} (H : Hp w0 (rd kByte A0_ c0_ a0 :: ps) fs w) (h : ref17_Entry_f a0 = some r0) :
  Calls Try.prog 97 [.slice A0_ a0.length c0_].toArray w fun e w' => ∃ v, e = .returned v ∧ v = .bool r0 ∧ Hp w0 ps fs w' := by
 refine enter [.slice A0_ a0.length c0_] 11 Try.func97 fun Q a NP RET NRM F => ?_
 replace NP := np NP
 unfold ref17_Entry_f at h
 refine rg ?_
 refine as_ F (v := .bool false) rfl fun a F => ?_
 refine rgend ?_
 refine wp_seq ?_
 obtain ⟨o_1, k_1, h⟩ := Option.bind_eq_some_iff.1 h
 refine cut (fun a w => ∃ (x1 : Bool), x1 = o_1 ∧ Fr 11 [] [(2, .bool x1)] a ∧ Hp w0 ps fs w) ?_ ?_
 ·skip
  refine wp_region_lit ?_
  refine mv F rfl fun a F => ?_
  refine qw F (r_len (F.t 3 rfl) Try.underlying29) fun a F => ?_
  refine qw F (r_ge (F.t 4 rfl) (F.k (.int .i64 1))) fun a F => ?_
  refine mv F rfl fun a F => ?_
  by_cases c3 : (a0.length : Int) ≥ 1
  ·rw [if_pos c3] at k_1
   rw [decide_eq_true c3] at F
   refine mv F rfl fun a F => ?_
   refine qw F (r_len (F.t 7 rfl) Try.underlying29) fun a F => ?_
   refine qw F (r_le (F.t 8 rfl) (F.k (.int .i64 50))) fun a F => ?_
   refine qw F (r_pickT (F.t 6 rfl) (F.t 9 rfl)) fun a F => ?_
   refine as_ F rfl fun a F => ?_
   refine wpList_nil ?_
   replace F := F.only [2] (l' := [(2, _)]) rfl
   try dsimp only at k_1
   obtain rfl := Option.some.inj k_1
   exact ⟨_, rfl, F.only [2] rfl, H.px0⟩
  rw [if_neg c3] at k_1
  rw [decide_eq_false c3] at F
  iterate 3 refine of_ F fun a F => ?_
  refine qw F (r_pickF (F.t 6 rfl) (F.k (.bool false))) fun a F => ?_
  refine as_ F rfl fun a F => ?_
  refine wpList_nil ?_
  replace F := F.only [2] (l' := [(2, _)]) rfl
  try dsimp only at k_1
  obtain rfl := Option.some.inj k_1
  exact ⟨_, rfl, F.only [2] rfl, H.px0⟩
 rintro a w ⟨x1, rfl, F, H⟩
 try dsimp only at h F H
 refine wp_ret ?_
 try dsimp only at h
 obtain rfl := Option.some.inj h
 exact RET _ _ (ret1 F rfl rfl ⟨_, rfl, rfl, H⟩)
def ref17_Parts_f (a0 : List Int) : Option (Int) :=
 some ((IntKind.i64.wrap ((IntKind.i64.wrap ((IntKind.i64.wrap ((a0.length : Int) + 50)) - 1)).tdiv 50)))
theorem ref17_Parts_ok {w0 w : World} {ps : List PF} {fs : List SF} {a0 : List Int} {A0_ : Option Addr} {c0_ : Nat} {r0 : Int} (H : Hp w0 (rd kByte A0_ c0_ a0 :: ps) fs w) (h : ref17_Parts_f a0 = some r0) :
  Calls Try.prog 99 [.slice A0_ a0.length c0_].toArray w fun e w' => ∃ v, e = .returned v ∧ v = .int .i64 r0 ∧ Hp w0 ps fs w' := by
 refine enter [.slice A0_ a0.length c0_] 8 Try.func99 fun Q a NP RET NRM F => ?_
 replace NP := np NP
 unfold ref17_Parts_f at h
 refine rg ?_
 refine as_ F (v := .int .i64 0) rfl fun a F => ?_
 refine rgend ?_
 refine rg ?_
 refine mv F rfl fun a F => ?_
 refine qw F (r_len (F.t 3 rfl) Try.underlying29) fun a F => ?_
 refine qw F (r_add (F.t 4 rfl) (F.k (.int .i64 50))) fun a F => ?_
 refine qw F (r_sub (F.t 5 rfl) (F.k (.int .i64 1))) fun a F => ?_
 refine qw F (r_quo (F.t 6 rfl) (F.k (.int .i64 50)) (by decide)) fun a F => ?_
 refine as_ F rfl fun a F => ?_
 refine rgend ?_
 replace F := F.only [2] (l' := [(2, _)]) rfl
 refine wp_ret ?_
 try dsimp only at h
 obtain rfl := Option.some.inj h
 exact RET _ _ (ret1 F rfl rfl ⟨_, rfl, rfl, H.px0⟩)
def ref17_sector_f (a0 : ref15_Disk) (a1 : Int) (a2 : Int) (a3 : Int) : Option (api_Sector × Bool) :=
 (if a1 < 0 then some (((⟨0, 0, 0, 0, []⟩ : api_Sector), false)) else (if a1 > 4096 then some (((⟨0, 0, 0, 0, []⟩ : api_Sector), false)) else (if a3 ≥ a2 then some (((⟨0, 0, 0, 0, []⟩ : api_Sector), false)) else (if a3 > 4096 then some (((⟨0, 0, 0, 0, []⟩ : api_Sector), false)) else ((ref15_Disk_Read_f a0 (IntKind.i64.wrap (a1 + a3))).bind fun (x6, x7) => (if x7 ≠ 0 then some (((⟨0, 0, 0, 0, []⟩ : api_Sector), false)) else ((ref16_Get_f x6).bind fun (x12, x13) => some (x12, x13))))))))
theorem ref17_sector_ok {w0 w : World} {ps : List PF} {fs : List SF} {a0 : ref15_Disk} {g0_ : Nat} {a1 : Int} {a2 : Int} {a3 : Int} {r0 : api_Sector} {r1 : Bool} (H : Hp w0 ps (obj_ref15_Disk g0_ a0 :: fs) w) (h : ref17_sector_f a0 a1 a2 a3 = some (r0, r1)) :
  Calls Try.prog 84 [pt g0_, .int .i64 a1, .int .i64 a2, .int .i64 a3].toArray w fun e w' => ∃ v, e = .returned v ∧ ∃ (A0_4 : Option Addr) (c0_4 : Nat), v = .tuple #[.agg #[.int .i64 r0.Gen, .int .i64 r0.Place, .int .i64 r0.Parts, .int .i64 r0.Kept, .slice A0_4 r0.Body.length c0_4], .bool r1] ∧ Hp w0 (rd kByte A0_4 c0_4 r0.Body :: ps) (obj_ref15_Disk g0_ a0 :: fs) w' := by
 refine enter [pt g0_, .int .i64 a1, .int .i64 a2, .int .i64 a3] 48 Try.func84 fun Q a NP RET NRM F => ?_
 replace NP := np NP
 unfold ref17_sector_f at h
 refine rg ?_
 refine ls (lal F H ti53 (cs := [.int .i64 0, .int .i64 0, .int .i64 0, .int .i64 0, .slice none 0 0]) rfl fun g1 w a H F => ?_)
 refine as_ F (v := .bool false) rfl fun a F => ?_
 refine rgend ?_
 refine wp_seq ?_
 refine rg ?_
 refine mv F rfl fun a F => ?_
 refine qw F (r_lt (F.t 14 rfl) (F.k (.int .i64 0))) fun a F => ?_
 refine mv F rfl fun a F => ?_
 by_cases c2 : a1 < 0
 ·rw [if_pos c2] at h
  rw [decide_eq_true c2] at F
  iterate 2 refine of_ F fun a F => ?_
  refine qw F (r_pickT (F.t 16 rfl) (F.k (.bool true))) fun a F => ?_
  refine mv F rfl fun a F => ?_
  iterate 3 refine of_ F fun a F => ?_
  refine qw F (r_pickT (F.t 20 rfl) (F.k (.bool true))) fun a F => ?_
  refine mv F rfl fun a F => ?_
  iterate 2 refine of_ F fun a F => ?_
  refine qw F (r_pickT (F.t 25 rfl) (F.k (.bool true))) fun a F => ?_
  refine rgend ?_
  replace F := F.only [28, 8, 0, 1, 3] (l' := [(28, _), (8, _), (0, _), (1, _), (3, _)]) rfl
  refine wp_cond_true (F.ev rfl) ?_
  refine rg ?_
  refine ls (lbd F (vs := []) (cs := [.int .i64 0, .int .i64 0, .int .i64 0, .int .i64 0, .slice none 0 0]) rfl (fun w => by kernel_rfl) fun a F => ?_)
  refine stF F [.int .i64 0, .int .i64 0, .int .i64 0, .int .i64 0, .slice none 0 0] H rfl rfl sz53 fun w a H F => ?_
  refine as_ F (v := .bool false) rfl fun a F => ?_
  refine rgend ?_
  replace F := F.only [9, 8] (l' := [(9, _), (8, _)]) rfl
  refine wp_ret ?_
  replace H := H.nilRd kByte
  try dsimp only at h
  obtain ⟨rfl, rfl⟩ := Prod.mk.inj (Option.some.inj h)
  exact RET _ _ (retC2 F rfl rfl rfl (ldvA (cel_range (o := 0) (n := 5) (vs := [.int .i64 0, .int .i64 0, .int .i64 0, .int .i64 0, .slice none 0 0]) (H.cell 0 rfl) rfl) agg53 rfl) ⟨_, rfl, none, 0, rfl, H.fx0⟩)
 rw [if_neg c2] at h
 rw [decide_eq_false c2] at F
 refine mv F rfl fun a F => ?_
 refine qw F (r_gt (F.t 17 rfl) (F.k (.int .i64 4096))) fun a F => ?_
 refine qw F (r_pickF (F.t 16 rfl) (F.t 18 rfl)) fun a F => ?_
 refine mv F rfl fun a F => ?_
 by_cases c3 : a1 > 4096
 ·rw [if_pos c3] at h
  rw [decide_eq_true c3] at F
  iterate 3 refine of_ F fun a F => ?_
  refine qw F (r_pickT (F.t 20 rfl) (F.k (.bool true))) fun a F => ?_
  refine mv F rfl fun a F => ?_
  iterate 2 refine of_ F fun a F => ?_
  refine qw F (r_pickT (F.t 25 rfl) (F.k (.bool true))) fun a F => ?_
  refine rgend ?_
  replace F := F.only [28, 8, 0, 1, 3] (l' := [(28, _), (8, _), (0, _), (1, _), (3, _)]) rfl
  refine wp_cond_true (F.ev rfl) ?_
  refine rg ?_
  refine ls (lbd F (vs := []) (cs := [.int .i64 0, .int .i64 0, .int .i64 0, .int .i64 0, .slice none 0 0]) rfl (fun w => by kernel_rfl) fun a F => ?_)
  refine stF F [.int .i64 0, .int .i64 0, .int .i64 0, .int .i64 0, .slice none 0 0] H rfl rfl sz53 fun w a H F => ?_
  refine as_ F (v := .bool false) rfl fun a F => ?_
  refine rgend ?_
  replace F := F.only [9, 8] (l' := [(9, _), (8, _)]) rfl
  refine wp_ret ?_
  replace H := H.nilRd kByte
  try dsimp only at h
  obtain ⟨rfl, rfl⟩ := Prod.mk.inj (Option.some.inj h)
  exact RET _ _ (retC2 F rfl rfl rfl (ldvA (cel_range (o := 0) (n := 5) (vs := [.int .i64 0, .int .i64 0, .int .i64 0, .int .i64 0, .slice none 0 0]) (H.cell 0 rfl) rfl) agg53 rfl) ⟨_, rfl, none, 0, rfl, H.fx0⟩)
 rw [if_neg c3] at h
 rw [decide_eq_false c3] at F
 iterate 2 refine mv F rfl fun a F => ?_
 refine qw F (r_ge (F.t 21 rfl) (F.t 22 rfl)) fun a F => ?_
 refine qw F (r_pickF (F.t 20 rfl) (F.t 23 rfl)) fun a F => ?_
 refine mv F rfl fun a F => ?_
 by_cases c4 : a3 ≥ a2
 ·rw [if_pos c4] at h
  rw [decide_eq_true c4] at F
  iterate 2 refine of_ F fun a F => ?_
  refine qw F (r_pickT (F.t 25 rfl) (F.k (.bool true))) fun a F => ?_
  refine rgend ?_
  replace F := F.only [28, 8, 0, 1, 3] (l' := [(28, _), (8, _), (0, _), (1, _), (3, _)]) rfl
  refine wp_cond_true (F.ev rfl) ?_
  refine rg ?_
  refine ls (lbd F (vs := []) (cs := [.int .i64 0, .int .i64 0, .int .i64 0, .int .i64 0, .slice none 0 0]) rfl (fun w => by kernel_rfl) fun a F => ?_)
  refine stF F [.int .i64 0, .int .i64 0, .int .i64 0, .int .i64 0, .slice none 0 0] H rfl rfl sz53 fun w a H F => ?_
  refine as_ F (v := .bool false) rfl fun a F => ?_
  refine rgend ?_
  replace F := F.only [9, 8] (l' := [(9, _), (8, _)]) rfl
  refine wp_ret ?_
  replace H := H.nilRd kByte
  try dsimp only at h
  obtain ⟨rfl, rfl⟩ := Prod.mk.inj (Option.some.inj h)
  exact RET _ _ (retC2 F rfl rfl rfl (ldvA (cel_range (o := 0) (n := 5) (vs := [.int .i64 0, .int .i64 0, .int .i64 0, .int .i64 0, .slice none 0 0]) (H.cell 0 rfl) rfl) agg53 rfl) ⟨_, rfl, none, 0, rfl, H.fx0⟩)
 rw [if_neg c4] at h
 rw [decide_eq_false c4] at F
 refine mv F rfl fun a F => ?_
 refine qw F (r_gt (F.t 26 rfl) (F.k (.int .i64 4096))) fun a F => ?_
 refine qw F (r_pickF (F.t 25 rfl) (F.t 27 rfl)) fun a F => ?_
 refine rgend ?_
 replace F := F.only [28, 8, 0, 1, 3] (l' := [(28, _), (8, _), (0, _), (1, _), (3, _)]) rfl
 by_cases c5 : a3 > 4096
 ·rw [if_pos c5] at h
  rw [decide_eq_true c5] at F
  refine wp_cond_true (F.ev rfl) ?_
  refine rg ?_
  refine ls (lbd F (vs := []) (cs := [.int .i64 0, .int .i64 0, .int .i64 0, .int .i64 0, .slice none 0 0]) rfl (fun w => by kernel_rfl) fun a F => ?_)
  refine stF F [.int .i64 0, .int .i64 0, .int .i64 0, .int .i64 0, .slice none 0 0] H rfl rfl sz53 fun w a H F => ?_
  refine as_ F (v := .bool false) rfl fun a F => ?_
  refine rgend ?_
  replace F := F.only [9, 8] (l' := [(9, _), (8, _)]) rfl
  refine wp_ret ?_
  replace H := H.nilRd kByte
  try dsimp only at h
  obtain ⟨rfl, rfl⟩ := Prod.mk.inj (Option.some.inj h)
  exact RET _ _ (retC2 F rfl rfl rfl (ldvA (cel_range (o := 0) (n := 5) (vs := [.int .i64 0, .int .i64 0, .int .i64 0, .int .i64 0, .slice none 0 0]) (H.cell 0 rfl) rfl) agg53 rfl) ⟨_, rfl, none, 0, rfl, H.fx0⟩)
 rw [if_neg c5] at h
 rw [decide_eq_false c5] at F
 refine wp_cond_false (F.ev rfl) ?_
 refine wp_skip ?_
 refine rg ?_
 iterate 3 refine mv F rfl fun a F => ?_
 refine qw F (r_add (F.t 32 rfl) (F.t 33 rfl)) fun a F => ?_
 obtain ⟨⟨x6, x7⟩, e8, h⟩ := Option.bind_eq_some_iff.1 h
 try dsimp only at h
 refine ls (call F Try.func65 (ref15_Disk_Read_ok (H.f1) e8) rfl rfl fun v w hR a F => ?_)
 obtain ⟨A9, c10, rfl, H⟩ := hR
 refine mv F rfl fun a F => ?_
 iterate 2 refine qw F (r_ex (F.t 30 rfl) rfl) fun a F => ?_
 iterate 2 refine as_ F rfl fun a F => ?_
 refine rgend ?_
 replace F := F.only [11, 10, 8] (l' := [(11, _), (10, _), (8, _)]) rfl
 refine wp_seq ?_
 refine rg ?_
 refine mv F rfl fun a F => ?_
 refine qw F (r_ne (F.t 38 rfl) (F.k (.int .i64 0))) fun a F => ?_
 refine rgend ?_
 by_cases c11 : x7 ≠ 0
 ·rw [if_pos c11] at h
  rw [decide_eq_true c11] at F
  refine wp_cond_true (F.ev rfl) ?_
  refine rg ?_
  refine ls (lbd F (vs := []) (cs := [.int .i64 0, .int .i64 0, .int .i64 0, .int .i64 0, .slice none 0 0]) rfl (fun w => by kernel_rfl) fun a F => ?_)
  refine stF F [.int .i64 0, .int .i64 0, .int .i64 0, .int .i64 0, .slice none 0 0] H.f1.f1.f2 rfl rfl sz53 fun w a H F => ?_
  refine as_ F (v := .bool false) rfl fun a F => ?_
  refine rgend ?_
  replace F := F.only [9, 8] (l' := [(9, _), (8, _)]) rfl
  refine wp_ret ?_
  replace H := H.nilRd kByte
  try dsimp only at h
  obtain ⟨rfl, rfl⟩ := Prod.mk.inj (Option.some.inj h)
  exact RET _ _ (retC2 F rfl rfl rfl (ldvA (cel_range (o := 0) (n := 5) (vs := [.int .i64 0, .int .i64 0, .int .i64 0, .int .i64 0, .slice none 0 0]) (H.cell 0 rfl) rfl) agg53 rfl) ⟨_, rfl, none, 0, rfl, H.fx1.fx0⟩)
 rw [if_neg c11] at h
 rw [decide_eq_false c11] at F
 refine wp_cond_false (F.ev rfl) ?_
 refine wp_skip ?_
 refine rg ?_
 refine mv F rfl fun a F => ?_
 replace H := (H).freeze
 obtain ⟨⟨x12, x13⟩, e14, h⟩ := Option.bind_eq_some_iff.1 h
 try dsimp only at h
 refine ls (call F Try.func95 (ref16_Get_ok (H.p0) e14) rfl rfl fun v w hR a F => ?_)
 obtain ⟨A15, c16, rfl, H⟩ := hR
 refine mv F rfl fun a F => ?_
 iterate 2 refine qw F (r_ex (F.t 41 rfl) rfl) fun a F => ?_
 refine ls (lal F H ti53 (cs := [.int .i64 0, .int .i64 0, .int .i64 0, .int .i64 0, .slice none 0 0]) rfl fun g17 w a H F => ?_)
 refine stF F [.int .i64 x12.Gen, .int .i64 x12.Place, .int .i64 x12.Parts, .int .i64 x12.Kept, .slice A15 x12.Body.length c16] H rfl rfl sz53 fun w a H F => ?_
 refine as_ F rfl fun a F => ?_
 refine rgend ?_
 replace F := F.only [13, 12, 8] (l' := [(13, _), (12, _), (8, _)]) rfl
 refine rg ?_
 refine qw F (r_ldA (F.t 12 rfl) (cel_range (o := 0) (n := 5) (vs := [.int .i64 x12.Gen, .int .i64 x12.Place, .int .i64 x12.Parts, .int .i64 x12.Kept, .slice A15 x12.Body.length c16]) (H.cell 0 rfl) rfl) agg53 rfl) fun a F => ?_
 refine mv F rfl fun a F => ?_
 refine stF F [.int .i64 x12.Gen, .int .i64 x12.Place, .int .i64 x12.Parts, .int .i64 x12.Kept, .slice A15 x12.Body.length c16] H.f1.f1.f2 rfl rfl sz53 fun w a H F => ?_
 refine as_ F rfl fun a F => ?_
 refine rgend ?_
 replace F := F.only [9, 8] (l' := [(9, _), (8, _)]) rfl
 refine wp_ret ?_
 try dsimp only at h
 obtain ⟨rfl, rfl⟩ := Prod.mk.inj (Option.some.inj h)
 exact RET _ _ (retC2 F rfl rfl rfl (ldvA (cel_range (o := 0) (n := 5) (vs := [.int .i64 x12.Gen, .int .i64 x12.Place, .int .i64 x12.Parts, .int .i64 x12.Kept, .slice A15 x12.Body.length c16]) (H.cell 0 rfl) rfl) agg53 rfl) ⟨_, rfl, A15, c16, rfl, H.px1.fx1.fx0⟩)
def ref17_like_f (a0 : ref15_Disk) (a1 : Int) (a2 : Int) (a3 : Int) (a4 : api_Sector) : Option (api_Sector × Bool) :=
 ((ref17_sector_f a0 a1 a2 a3).bind fun (x3, x4) => (if x4 = true then (if x3.Place ≠ a3 then some (((⟨0, 0, 0, 0, []⟩ : api_Sector), false)) else (if x3.Gen ≠ a4.Gen then some (((⟨0, 0, 0, 0, []⟩ : api_Sector), false)) else (if x3.Parts ≠ a4.Parts then some (((⟨0, 0, 0, 0, []⟩ : api_Sector), false)) else (if x3.Kept ≠ a4.Kept then some (((⟨0, 0, 0, 0, []⟩ : api_Sector), false)) else some (x3, true))))) else some (((⟨0, 0, 0, 0, []⟩ : api_Sector), false))))
theorem ref17_like_ok {w0 w : World} {ps : List PF} {fs : List SF} {a0 : ref15_Disk} {g0_ : Nat} {a1 : Int} {a2 : Int} {a3 : Int} {a4 : api_Sector} {A4_4 : Option Addr} {c4_4 : Nat} {r0 : api_Sector} {r1 : Bool} (H : Hp w0 (rd kByte A4_4 c4_4 a4.Body :: ps) (obj_ref15_Disk g0_ a0 :: fs) w) (h : ref17_like_f a0 a1 a2 a3 a4 = some (r0, r1)) :
  Calls Try.prog 85 [pt g0_, .int .i64 a1, .int .i64 a2, .int .i64 a3, .agg #[.int .i64 a4.Gen, .int .i64 a4.Place, .int .i64 a4.Parts, .int .i64 a4.Kept, .slice A4_4 a4.Body.length c4_4]].toArray w fun e w' => ∃ v, e = .returned v ∧ ∃ (A0_4 : Option Addr) (c0_4 : Nat), v = .tuple #[.agg #[.int .i64 r0.Gen, .int .i64 r0.Place, .int .i64 r0.Parts, .int .i64 r0.Kept, .slice A0_4 r0.Body.length c0_4], .bool r1] ∧ Hp w0 (rd kByte A0_4 c0_4 r0.Body :: ps) (obj_ref15_Disk g0_ a0 :: fs) w' := by
 refine enter [pt g0_, .int .i64 a1, .int .i64 a2, .int .i64 a3, .agg #[.int .i64 a4.Gen, .int .i64 a4.Place, .int .i64 a4.Parts, .int .i64 a4.Kept, .slice A4_4 a4.Body.length c4_4]] 53 Try.func85 fun Q a NP RET NRM F => ?_
 replace NP := np NP
 unfold ref17_like_f at h
 refine rg ?_
 refine ls (lbox F H rfl (cs := [.int .i64 a4.Gen, .int .i64 a4.Place, .int .i64 a4.Parts, .int .i64 a4.Kept, .slice A4_4 a4.Body.length c4_4]) rfl fun g1 w a H F => ?_)
 refine ls (lal F H ti53 (cs := [.int .i64 0, .int .i64 0, .int .i64 0, .int .i64 0, .slice none 0 0]) rfl fun g2 w a H F => ?_)
 refine as_ F (v := .bool false) rfl fun a F => ?_
 refine rgend ?_
 refine rg ?_
 iterate 4 refine mv F rfl fun a F => ?_
 obtain ⟨⟨x3, x4⟩, e5, h⟩ := Option.bind_eq_some_iff.1 h
 try dsimp only at h
 refine ls (call F Try.func84 (ref17_sector_ok (H.f1.f1.f2) e5) rfl rfl fun v w hR a F => ?_)
 obtain ⟨A6, c7, rfl, H⟩ := hR
 refine mv F rfl fun a F => ?_
 iterate 2 refine qw F (r_ex (F.t 14 rfl) rfl) fun a F => ?_
 refine ls (lal F H ti53 (cs := [.int .i64 0, .int .i64 0, .int .i64 0, .int .i64 0, .slice none 0 0]) rfl fun g8 w a H F => ?_)
 refine stF F [.int .i64 x3.Gen, .int .i64 x3.Place, .int .i64 x3.Parts, .int .i64 x3.Kept, .slice A6 x3.Body.length c7] H rfl rfl sz53 fun w a H F => ?_
 refine as_ F rfl fun a F => ?_
 refine rgend ?_
 replace F := F.only [13, 12, 10, 9, 3] (l' := [(13, _), (12, _), (10, _), (9, _), (3, _)]) rfl
 refine wp_seq ?_
 refine rg ?_
 refine mv F rfl fun a F => ?_
 refine qw F (r_not (F.t 22 rfl)) fun a F => ?_
 refine mv F rfl fun a F => ?_
 by_cases c9 : x4 = true
 ·rw [if_pos c9] at h
  rw [c9] at F
  refine qw F (r_fa (off := 1) (F.t 12 rfl) fa53_1) fun a F => ?_
  refine qw F (r_ld (F.t 25 rfl) (cel_cell (o := 1) (H.cell 0 rfl) rfl) one3) fun a F => ?_
  refine mv F rfl fun a F => ?_
  refine qw F (r_ne (F.t 26 rfl) (F.t 27 rfl)) fun a F => ?_
  refine qw F (r_pickF (F.t 24 rfl) (F.t 28 rfl)) fun a F => ?_
  refine mv F rfl fun a F => ?_
  by_cases c10 : x3.Place ≠ a3
  ·rw [if_pos c10] at h
   rw [decide_eq_true c10] at F
   iterate 5 refine of_ F fun a F => ?_
   refine qw F (r_pickT (F.t 30 rfl) (F.k (.bool true))) fun a F => ?_
   refine mv F rfl fun a F => ?_
   iterate 5 refine of_ F fun a F => ?_
   refine qw F (r_pickT (F.t 37 rfl) (F.k (.bool true))) fun a F => ?_
   refine mv F rfl fun a F => ?_
   iterate 5 refine of_ F fun a F => ?_
   refine qw F (r_pickT (F.t 44 rfl) (F.k (.bool true))) fun a F => ?_
   refine rgend ?_
   replace F := F.only [50, 12, 10] (l' := [(50, _), (12, _), (10, _)]) rfl
   refine wp_cond_true (F.ev rfl) ?_
   refine rg ?_
   refine ls (lbd F (vs := []) (cs := [.int .i64 0, .int .i64 0, .int .i64 0, .int .i64 0, .slice none 0 0]) rfl (fun w => by kernel_rfl) fun a F => ?_)
   refine stF F [.int .i64 0, .int .i64 0, .int .i64 0, .int .i64 0, .slice none 0 0] H.f3.f2.f2.f3 rfl rfl sz53 fun w a H F => ?_
   refine as_ F (v := .bool false) rfl fun a F => ?_
   refine rgend ?_
   refine wp_ret ?_
   replace H := H.nilRd kByte
   try dsimp only at h
   obtain ⟨rfl, rfl⟩ := Prod.mk.inj (Option.some.inj h)
   exact RET _ _ (retC2 F rfl rfl rfl (ldvA (cel_range (o := 0) (n := 5) (vs := [.int .i64 0, .int .i64 0, .int .i64 0, .int .i64 0, .slice none 0 0]) (H.cell 0 rfl) rfl) agg53 rfl) ⟨_, rfl, none, 0, rfl, H.px2.px1.fx3.fx1.fx0⟩)
  rw [if_neg c10] at h
  rw [decide_eq_false c10] at F
  refine qw F (r_fa (off := 0) (F.t 12 rfl) fa53_0) fun a F => ?_
  refine qw F (r_ld (F.t 31 rfl) (cel_cell (o := 0) (H.cell 0 rfl) rfl) one2) fun a F => ?_
  refine qw F (r_fa (off := 0) (F.t 9 rfl) fa53_0) fun a F => ?_
  refine qw F (r_ld (F.t 33 rfl) (cel_cell (o := 0) (H.cell 3 rfl) rfl) one2) fun a F => ?_
  refine qw F (r_ne (F.t 32 rfl) (F.t 34 rfl)) fun a F => ?_
  refine qw F (r_pickF (F.t 30 rfl) (F.t 35 rfl)) fun a F => ?_
  refine mv F rfl fun a F => ?_
  by_cases c11 : x3.Gen ≠ a4.Gen
  ·rw [if_pos c11] at h
   rw [decide_eq_true c11] at F
   iterate 5 refine of_ F fun a F => ?_
   refine qw F (r_pickT (F.t 37 rfl) (F.k (.bool true))) fun a F => ?_
   refine mv F rfl fun a F => ?_
   iterate 5 refine of_ F fun a F => ?_
   refine qw F (r_pickT (F.t 44 rfl) (F.k (.bool true))) fun a F => ?_
   refine rgend ?_
   replace F := F.only [50, 12, 10] (l' := [(50, _), (12, _), (10, _)]) rfl
   refine wp_cond_true (F.ev rfl) ?_
   refine rg ?_
   refine ls (lbd F (vs := []) (cs := [.int .i64 0, .int .i64 0, .int .i64 0, .int .i64 0, .slice none 0 0]) rfl (fun w => by kernel_rfl) fun a F => ?_)
   refine stF F [.int .i64 0, .int .i64 0, .int .i64 0, .int .i64 0, .slice none 0 0] H.f3.f2.f2.f3 rfl rfl sz53 fun w a H F => ?_
   refine as_ F (v := .bool false) rfl fun a F => ?_
   refine rgend ?_
   refine wp_ret ?_
   replace H := H.nilRd kByte
   try dsimp only at h
   obtain ⟨rfl, rfl⟩ := Prod.mk.inj (Option.some.inj h)
   exact RET _ _ (retC2 F rfl rfl rfl (ldvA (cel_range (o := 0) (n := 5) (vs := [.int .i64 0, .int .i64 0, .int .i64 0, .int .i64 0, .slice none 0 0]) (H.cell 0 rfl) rfl) agg53 rfl) ⟨_, rfl, none, 0, rfl, H.px2.px1.fx3.fx1.fx0⟩)
  rw [if_neg c11] at h
  rw [decide_eq_false c11] at F
  refine qw F (r_fa (off := 2) (F.t 12 rfl) fa53_2) fun a F => ?_
  refine qw F (r_ld (F.t 38 rfl) (cel_cell (o := 2) (H.cell 0 rfl) rfl) one3) fun a F => ?_
  refine qw F (r_fa (off := 2) (F.t 9 rfl) fa53_2) fun a F => ?_
  refine qw F (r_ld (F.t 40 rfl) (cel_cell (o := 2) (H.cell 3 rfl) rfl) one3) fun a F => ?_
  refine qw F (r_ne (F.t 39 rfl) (F.t 41 rfl)) fun a F => ?_
  refine qw F (r_pickF (F.t 37 rfl) (F.t 42 rfl)) fun a F => ?_
  refine mv F rfl fun a F => ?_
  by_cases c12 : x3.Parts ≠ a4.Parts
  ·rw [if_pos c12] at h
   rw [decide_eq_true c12] at F
   iterate 5 refine of_ F fun a F => ?_
   refine qw F (r_pickT (F.t 44 rfl) (F.k (.bool true))) fun a F => ?_
   refine rgend ?_
   replace F := F.only [50, 12, 10] (l' := [(50, _), (12, _), (10, _)]) rfl
   refine wp_cond_true (F.ev rfl) ?_
   refine rg ?_
   refine ls (lbd F (vs := []) (cs := [.int .i64 0, .int .i64 0, .int .i64 0, .int .i64 0, .slice none 0 0]) rfl (fun w => by kernel_rfl) fun a F => ?_)
   refine stF F [.int .i64 0, .int .i64 0, .int .i64 0, .int .i64 0, .slice none 0 0] H.f3.f2.f2.f3 rfl rfl sz53 fun w a H F => ?_
   refine as_ F (v := .bool false) rfl fun a F => ?_
   refine rgend ?_
   refine wp_ret ?_
   replace H := H.nilRd kByte
   try dsimp only at h
   obtain ⟨rfl, rfl⟩ := Prod.mk.inj (Option.some.inj h)
   exact RET _ _ (retC2 F rfl rfl rfl (ldvA (cel_range (o := 0) (n := 5) (vs := [.int .i64 0, .int .i64 0, .int .i64 0, .int .i64 0, .slice none 0 0]) (H.cell 0 rfl) rfl) agg53 rfl) ⟨_, rfl, none, 0, rfl, H.px2.px1.fx3.fx1.fx0⟩)
  rw [if_neg c12] at h
  rw [decide_eq_false c12] at F
  refine qw F (r_fa (off := 3) (F.t 12 rfl) fa53_3) fun a F => ?_
  refine qw F (r_ld (F.t 45 rfl) (cel_cell (o := 3) (H.cell 0 rfl) rfl) one3) fun a F => ?_
  refine qw F (r_fa (off := 3) (F.t 9 rfl) fa53_3) fun a F => ?_
  refine qw F (r_ld (F.t 47 rfl) (cel_cell (o := 3) (H.cell 3 rfl) rfl) one3) fun a F => ?_
  refine qw F (r_ne (F.t 46 rfl) (F.t 48 rfl)) fun a F => ?_
  refine qw F (r_pickF (F.t 44 rfl) (F.t 49 rfl)) fun a F => ?_
  refine rgend ?_
  replace F := F.only [50, 12, 10] (l' := [(50, _), (12, _), (10, _)]) rfl
  by_cases c13 : x3.Kept ≠ a4.Kept
  ·rw [if_pos c13] at h
   rw [decide_eq_true c13] at F
   refine wp_cond_true (F.ev rfl) ?_
   refine rg ?_
   refine ls (lbd F (vs := []) (cs := [.int .i64 0, .int .i64 0, .int .i64 0, .int .i64 0, .slice none 0 0]) rfl (fun w => by kernel_rfl) fun a F => ?_)
   refine stF F [.int .i64 0, .int .i64 0, .int .i64 0, .int .i64 0, .slice none 0 0] H.f3.f2.f2.f3 rfl rfl sz53 fun w a H F => ?_
   refine as_ F (v := .bool false) rfl fun a F => ?_
   refine rgend ?_
   refine wp_ret ?_
   replace H := H.nilRd kByte
   try dsimp only at h
   obtain ⟨rfl, rfl⟩ := Prod.mk.inj (Option.some.inj h)
   exact RET _ _ (retC2 F rfl rfl rfl (ldvA (cel_range (o := 0) (n := 5) (vs := [.int .i64 0, .int .i64 0, .int .i64 0, .int .i64 0, .slice none 0 0]) (H.cell 0 rfl) rfl) agg53 rfl) ⟨_, rfl, none, 0, rfl, H.px2.px1.fx3.fx1.fx0⟩)
  rw [if_neg c13] at h
  rw [decide_eq_false c13] at F
  refine wp_cond_false (F.ev rfl) ?_
  refine wp_skip ?_
  refine rg ?_
  refine qw F (r_ldA (F.t 12 rfl) (cel_range (o := 0) (n := 5) (vs := [.int .i64 x3.Gen, .int .i64 x3.Place, .int .i64 x3.Parts, .int .i64 x3.Kept, .slice A6 x3.Body.length c7]) (H.cell 0 rfl) rfl) agg53 rfl) fun a F => ?_
  refine stF F [.int .i64 x3.Gen, .int .i64 x3.Place, .int .i64 x3.Parts, .int .i64 x3.Kept, .slice A6 x3.Body.length c7] H.f3.f2.f2.f3 rfl rfl sz53 fun w a H F => ?_
  refine as_ F (v := .bool true) rfl fun a F => ?_
  refine rgend ?_
  refine wp_ret ?_
  try dsimp only at h
  obtain ⟨rfl, rfl⟩ := Prod.mk.inj (Option.some.inj h)
  exact RET _ _ (retC2 F rfl rfl rfl (ldvA (cel_range (o := 0) (n := 5) (vs := [.int .i64 x3.Gen, .int .i64 x3.Place, .int .i64 x3.Parts, .int .i64 x3.Kept, .slice A6 x3.Body.length c7]) (H.cell 0 rfl) rfl) agg53 rfl) ⟨_, rfl, A6, c7, rfl, H.px1.fx3.fx1.fx0⟩)
 rw [if_neg c9] at h
 rw [Bool.eq_false_iff.2 c9] at F
 iterate 4 refine of_ F fun a F => ?_
 refine qw F (r_pickT (F.t 24 rfl) (F.k (.bool true))) fun a F => ?_
 refine mv F rfl fun a F => ?_
 iterate 5 refine of_ F fun a F => ?_
 refine qw F (r_pickT (F.t 30 rfl) (F.k (.bool true))) fun a F => ?_
 refine mv F rfl fun a F => ?_
 iterate 5 refine of_ F fun a F => ?_
 refine qw F (r_pickT (F.t 37 rfl) (F.k (.bool true))) fun a F => ?_
 refine mv F rfl fun a F => ?_
 iterate 5 refine of_ F fun a F => ?_
 refine qw F (r_pickT (F.t 44 rfl) (F.k (.bool true))) fun a F => ?_
 refine rgend ?_
 replace F := F.only [50, 12, 10] (l' := [(50, _), (12, _), (10, _)]) rfl
 refine wp_cond_true (F.ev rfl) ?_
 refine rg ?_
 refine ls (lbd F (vs := []) (cs := [.int .i64 0, .int .i64 0, .int .i64 0, .int .i64 0, .slice none 0 0]) rfl (fun w => by kernel_rfl) fun a F => ?_)
 refine stF F [.int .i64 0, .int .i64 0, .int .i64 0, .int .i64 0, .slice none 0 0] H.f3.f2.f2.f3 rfl rfl sz53 fun w a H F => ?_
 refine as_ F (v := .bool false) rfl fun a F => ?_
 refine rgend ?_
 refine wp_ret ?_
 replace H := H.nilRd kByte
 try dsimp only at h
 obtain ⟨rfl, rfl⟩ := Prod.mk.inj (Option.some.inj h)
 exact RET _ _ (retC2 F rfl rfl rfl (ldvA (cel_range (o := 0) (n := 5) (vs := [.int .i64 0, .int .i64 0, .int .i64 0, .int .i64 0, .slice none 0 0]) (H.cell 0 rfl) rfl) agg53 rfl) ⟨_, rfl, none, 0, rfl, H.px2.px1.fx3.fx1.fx0⟩)
end Go.Proofs.Ytpmkpiffbdcflaa
