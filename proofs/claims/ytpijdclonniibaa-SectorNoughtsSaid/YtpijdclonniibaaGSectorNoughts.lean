/- What the functions compute. Printed by wip/gen. -/
import Derived.Test.YtpijdclonniibaaGL
set_option linter.unusedVariables false
set_option linter.unusedSimpArgs false
namespace Go.Proofs.Ytpijdclonniibaa
open Go Go.RowKit
def law16_SectorNoughts_f (a0 : api_Sector) (a1 : Int) (a2 : Int) : Option (Bool) :=
  ((law16_head_f).bind fun x2 => (if (a0.Body.length : Int) > 900 then some x2 else ((sector_Put_f a0).bind fun x5 => (if 0 ≤ (IntKind.i64.wrap a1) ∧ 1 * (IntKind.i64.wrap a1) ≤ 281474976710656 then ((sector_Get_f (List.replicate (IntKind.i64.wrap a1 : Int).toNat (0 : Int))).bind fun (x11, x12) => (if x12 = true then some false else (if (x5.length : Int) ≠ 64 then some x2 else (if 0 ≤ (0 : Int) ∧ (0 : Int) ≤ (IntKind.i64.wrap a1).tmod 64 ∧ (IntKind.i64.wrap a1).tmod 64 ≤ (x5.length : Int) then ((sector_Get_f (((x5.take ((IntKind.i64.wrap a1).tmod 64).toNat).drop ((0 : Int)).toNat))).bind fun (x22, x23) => (if (0 + x5.length) * 1 ≤ 140737488355328 then (if (x5.length + 1) * 1 ≤ 140737488355328 then ((sector_Get_f ((x5 ++ ([a2])))).bind fun (x36, x37) => (if (max (IntKind.i64.wrap (50 - (a0.Body.length : Int))) 1) ≠ 0 then (if (IntKind.i64.wrap ((IntKind.i64.wrap (14 + (a0.Body.length : Int))) + ((IntKind.i64.wrap a1).tmod (max (IntKind.i64.wrap (50 - (a0.Body.length : Int))) 1)))) ≥ 64 then (((if x2 = true then (if x23 = true then some false else some (!x37)) else some false) : Option (Bool)).bind fun x44 => some x44) else (if (0 + x5.length) * 1 ≤ 140737488355328 then (if 0 ≤ IntKind.i64.wrap ((IntKind.i64.wrap (14 + (a0.Body.length : Int))) + ((IntKind.i64.wrap a1).tmod (max (IntKind.i64.wrap (50 - (a0.Body.length : Int))) 1))) ∧ IntKind.i64.wrap ((IntKind.i64.wrap (14 + (a0.Body.length : Int))) + ((IntKind.i64.wrap a1).tmod (max (IntKind.i64.wrap (50 - (a0.Body.length : Int))) 1))) < (x5.length : Int) then ((sector_Get_f ((x5.set (IntKind.i64.wrap ((IntKind.i64.wrap (14 + (a0.Body.length : Int))) + ((IntKind.i64.wrap a1).tmod (max (IntKind.i64.wrap (50 - (a0.Body.length : Int))) 1))) : Int).toNat a2))).bind fun (x58, x59) => (((if x2 = true then (if x23 = true then some false else (if x37 = true then some false else (if ((x59 == (decide (a2 = 0)))) = true then (if x59 = true then some true else ((ref16_Same_f x58 (⟨0, 0, 0, 0, []⟩ : api_Sector)).bind fun x71 => some x71)) else some false))) else some false) : Option (Bool)).bind fun x64 => some x64)) else none) else none)) else none)) else none) else none)) else none)))) else none))))
set_option maxHeartbeats 4000000 in
set_option maxRecDepth 20000 in
theorem law16_SectorNoughts_ok {w0 w : World} {ps : List PF} {fs : List SF} {a0 : api_Sector} {A0_4 : Option Addr} {c0_4 : Nat} {a1 : Int} {a2 : Int} {r0 : Bool} (H : Hp w0 (rd kByte A0_4 c0_4 a0.Body :: ps) fs w) (h : law16_SectorNoughts_f a0 a1 a2 = some r0) (ha1 : 0 ≤ a1 ∧ a1 < 256) (ha2 : 0 ≤ a2 ∧ a2 < 256) :
    Calls Try.prog 6 [.agg #[.int .i64 a0.Gen, .int .i64 a0.Place, .int .i64 a0.Parts, .int .i64 a0.Kept, .slice A0_4 a0.Body.length c0_4], .int .u8 a1, .int .u8 a2].toArray w fun e w' => ∃ v, e = .returned v ∧ v = .bool r0 ∧ Hp w0 ps fs w' := by
  refine enter [.agg #[.int .i64 a0.Gen, .int .i64 a0.Place, .int .i64 a0.Parts, .int .i64 a0.Kept, .slice A0_4 a0.Body.length c0_4], .int .u8 a1, .int .u8 a2] 117 Try.func6 fun Q a NP RET NRM F => ?_
  replace NP : ∀ c a w, ¬ Q (.panic c) a w := fun c a w h => by rcases NP c a w h with h | ⟨w, v, h, _⟩ <;> cases h
  unfold law16_SectorNoughts_f at h
  refine rg ?_
  refine ls (lbox F H rfl (cs := [.int .i64 a0.Gen, .int .i64 a0.Place, .int .i64 a0.Parts, .int .i64 a0.Kept, .slice A0_4 a0.Body.length c0_4]) rfl fun g1 w a H F => ?_)
  refine as_ F (v := .bool false) rfl fun a F => ?_
  refine rgend ?_
  refine rg ?_
  obtain ⟨x2, e3, h⟩ := Option.bind_eq_some_iff.1 h
  try dsimp only at h
  refine ls (call F Try.func9 (law16_head_ok (H) e3) rfl rfl fun v w hR a F => ?_)
  obtain ⟨rfl, H⟩ := hR
  refine as_ F rfl fun a F => ?_
  refine rgend ?_
  refine wp_seq ?_
  refine rg ?_
  refine ls (qv F (r_fa (off := 4) (F.ev (x := .tmp 3) rfl) fa24_4) fun a F => ?_)
  refine ls (qv F (r_ld (F.ev (x := .tmp 20) rfl) (cel_cell (o := 4) (H.cell 0 rfl) rfl) one22) fun a F => ?_)
  refine ls (qv F (r_len (F.ev (x := .tmp 21) rfl) Try.underlying22) fun a F => ?_)
  refine ls (qv F (r_gt (F.ev (x := .tmp 22) rfl) (F.ev (x := .const (.int .i64 900)) rfl)) fun a F => ?_)
  refine rgend ?_
  replace F := F.only [23, 7, 3, 1, 2] (l' := [(23, .bool (decide ((a0.Body.length : Int) > 900))), (7, .bool x2), (3, .pointer (some ⟨g1, 0, none⟩)), (1, .int .u8 a1), (2, .int .u8 a2)]) rfl
  by_cases c4 : (a0.Body.length : Int) > 900
  · rw [if_pos c4] at h
    rw [decide_eq_true c4] at F
    refine wp_cond_true (F.ev rfl) ?_
    refine rg ?_
    refine mv F rfl fun a F => ?_
    refine as_ F rfl fun a F => ?_
    refine rgend ?_
    replace F := F.only [6] (l' := [(6, .bool x2)]) rfl
    refine wp_ret ?_
    try dsimp only at h
    obtain rfl := Option.some.inj h
    exact RET _ _ (ret1 F rfl rfl ⟨_, rfl, rfl, H.px0.fx0⟩)
  · rw [if_neg c4] at h
    rw [decide_eq_false c4] at F
    refine wp_cond_false (F.ev rfl) ?_
    refine wp_skip ?_
    refine rg ?_
    refine ls (qv F (r_ldA (F.ev (x := .tmp 3) rfl) (cel_range (o := 0) (n := 5) (vs := [.int .i64 a0.Gen, .int .i64 a0.Place, .int .i64 a0.Parts, .int .i64 a0.Kept, .slice A0_4 a0.Body.length c0_4]) (H.cell 0 rfl) rfl) agg24 rfl) fun a F => ?_)
    obtain ⟨x5, e6, h⟩ := Option.bind_eq_some_iff.1 h
    try dsimp only at h
    refine ls (call F Try.func14 (sector_Put_ok (a0 := a0) (H.p0) e6) rfl rfl fun v w hR a F => ?_)
    obtain ⟨A7, c8, rfl, H⟩ := hR
    refine as_ F rfl fun a F => ?_
    refine rgend ?_
    refine rg ?_
    refine mv F rfl fun a F => ?_
    refine ls (qv F (r_ci (F.ev (x := .tmp 28) rfl) Try.underlying3 Try.underlying5) fun a F => ?_)
    obtain ⟨c10, h⟩ := guardO h
    obtain ⟨g9, _, hr, H⟩ := Hp.make (kd := kByte) (zx := (0 : Int)) H (F.ev (x := .tmp 29) rfl) (F.ev (x := .tmp 29) rfl) Try.underlying22 ti5 rfl rfl (by decide) c10.1 c10.2 (fun Z w => ⟨rfl, by decide⟩) rfl
    refine ls (qv F (hr _ _ _ _ _) fun a F => ?_)
    replace H := (H).freeze
    obtain ⟨⟨x11, x12⟩, e13, h⟩ := Option.bind_eq_some_iff.1 h
    try dsimp only at h
    refine ls (call F Try.func10 (sector_Get_ok (H.p0) e13) rfl rfl fun v w hR a F => ?_)
    obtain ⟨A14, c15, rfl, H⟩ := hR
    refine mv F rfl fun a F => ?_
    refine ls (qv F (r_ex (F.ev (x := .tmp 27) rfl) rfl) fun a F => ?_)
    refine ls (qv F (r_ex (F.ev (x := .tmp 27) rfl) rfl) fun a F => ?_)
    refine ls (lal F H ti24 (cs := [.int .i64 0, .int .i64 0, .int .i64 0, .int .i64 0, .slice none 0 0]) rfl fun g16 w a H F => ?_)
    obtain ⟨_, hr, H⟩ := Hp.store (t := 24) (o := 0) (n := 5) (vs := [.int .i64 x11.Gen, .int .i64 x11.Place, .int .i64 x11.Parts, .int .i64 x11.Kept, .slice A14 x11.Body.length c15]) (cs' := [.int .i64 x11.Gen, .int .i64 x11.Place, .int .i64 x11.Parts, .int .i64 x11.Kept, .slice A14 x11.Body.length c15]) (H) (F.ev (x := .tmp 9) rfl) (F.ev (x := .tmp 32) rfl) rfl sz24 rfl (Nat.le_of_ble_eq_true rfl) rfl rfl
    refine ls (qn F (.inl rfl) (hr _ _ _ _) fun a F => ?_)
    refine as_ F rfl fun a F => ?_
    refine rgend ?_
    replace F := F.only [10, 8, 7, 3, 1, 2] (l' := [(10, .bool x12), (8, .slice A7 x5.length c8), (7, .bool x2), (3, .pointer (some ⟨g1, 0, none⟩)), (1, .int .u8 a1), (2, .int .u8 a2)]) rfl
    refine wp_seq ?_
    refine rg ?_
    refine mv F rfl fun a F => ?_
    refine rgend ?_
    by_cases c17 : x12 = true
    · rw [if_pos c17] at h
      rw [c17] at F
      refine wp_cond_true (F.ev rfl) ?_
      refine rg ?_
      refine as_ F (v := .bool false) rfl fun a F => ?_
      refine rgend ?_
      replace F := F.only [6] (l' := [(6, .bool false)]) rfl
      refine wp_ret ?_
      try dsimp only at h
      obtain rfl := Option.some.inj h
      exact RET _ _ (ret1 F rfl rfl ⟨_, rfl, rfl, H.px3.px2.px1.px0.fx1.fx0⟩)
    · rw [if_neg c17] at h
      rw [Bool.eq_false_iff.2 c17] at F
      refine wp_cond_false (F.ev rfl) ?_
      refine wp_skip ?_
      refine wp_seq ?_
      refine rg ?_
      refine mv F rfl fun a F => ?_
      refine ls (qv F (r_len (F.ev (x := .tmp 35) rfl) Try.underlying22) fun a F => ?_)
      refine ls (qv F (r_ne (F.ev (x := .tmp 36) rfl) (F.ev (x := .const (.int .i64 64)) rfl)) fun a F => ?_)
      refine rgend ?_
      replace F := F.only [37, 8, 7, 3, 1, 2] (l' := [(37, .bool (decide ((x5.length : Int) ≠ 64))), (8, .slice A7 x5.length c8), (7, .bool x2), (3, .pointer (some ⟨g1, 0, none⟩)), (1, .int .u8 a1), (2, .int .u8 a2)]) rfl
      by_cases c18 : (x5.length : Int) ≠ 64
      · rw [if_pos c18] at h
        rw [decide_eq_true c18] at F
        refine wp_cond_true (F.ev rfl) ?_
        refine rg ?_
        refine mv F rfl fun a F => ?_
        refine as_ F rfl fun a F => ?_
        refine rgend ?_
        replace F := F.only [6] (l' := [(6, .bool x2)]) rfl
        refine wp_ret ?_
        try dsimp only at h
        obtain rfl := Option.some.inj h
        exact RET _ _ (ret1 F rfl rfl ⟨_, rfl, rfl, H.px3.px2.px1.px0.fx1.fx0⟩)
      · rw [if_neg c18] at h
        rw [decide_eq_false c18] at F
        refine wp_cond_false (F.ev rfl) ?_
        refine wp_skip ?_
        refine rg ?_
        refine mv F rfl fun a F => ?_
        refine mv F rfl fun a F => ?_
        refine ls (qv F (r_ci (F.ev (x := .tmp 41) rfl) Try.underlying3 Try.underlying5) fun a F => ?_)
        refine ls (qv F (r_rem (F.ev (x := .tmp 42) rfl) (F.ev (x := .const (.int .i64 64)) rfl) (by decide)) fun a F => ?_)
        obtain ⟨c19, h⟩ := guardO h
        obtain ⟨A20, c21, hr, H⟩ := Hp.sl (kd := kByte) (jl := (0 : Int)) (jh := (IntKind.i64.wrap a1).tmod 64) H 2 rfl (F.ev (x := .tmp 40) rfl) Try.underlying22 sz5 (.inl ⟨rfl, rfl⟩) (.inr ⟨_, _, rfl, (F.ev (x := .tmp 43) rfl)⟩) c19
        refine ls (qv F (hr _ _ _ _ _ _) fun a F => ?_)
        obtain ⟨⟨x22, x23⟩, e24, h⟩ := Option.bind_eq_some_iff.1 h
        try dsimp only at h
        refine ls (call F Try.func10 (sector_Get_ok (H.p0) e24) rfl rfl fun v w hR a F => ?_)
        obtain ⟨A25, c26, rfl, H⟩ := hR
        refine mv F rfl fun a F => ?_
        refine ls (qv F (r_ex (F.ev (x := .tmp 39) rfl) rfl) fun a F => ?_)
        refine ls (qv F (r_ex (F.ev (x := .tmp 39) rfl) rfl) fun a F => ?_)
        refine ls (lal F H ti24 (cs := [.int .i64 0, .int .i64 0, .int .i64 0, .int .i64 0, .slice none 0 0]) rfl fun g27 w a H F => ?_)
        obtain ⟨_, hr, H⟩ := Hp.store (t := 24) (o := 0) (n := 5) (vs := [.int .i64 x22.Gen, .int .i64 x22.Place, .int .i64 x22.Parts, .int .i64 x22.Kept, .slice A25 x22.Body.length c26]) (cs' := [.int .i64 x22.Gen, .int .i64 x22.Place, .int .i64 x22.Parts, .int .i64 x22.Kept, .slice A25 x22.Body.length c26]) (H) (F.ev (x := .tmp 11) rfl) (F.ev (x := .tmp 46) rfl) rfl sz24 rfl (Nat.le_of_ble_eq_true rfl) rfl rfl
        refine ls (qn F (.inl rfl) (hr _ _ _ _) fun a F => ?_)
        refine as_ F rfl fun a F => ?_
        refine rgend ?_
        replace F := F.only [12, 8, 7, 3, 1, 2] (l' := [(12, .bool x23), (8, .slice A7 x5.length c8), (7, .bool x2), (3, .pointer (some ⟨g1, 0, none⟩)), (1, .int .u8 a1), (2, .int .u8 a2)]) rfl
        refine rg ?_
        refine ls (lbs F H (e := 5) (vs := []) (cs := []) rfl (fun w => by kernel_rfl) fun g28 w a H F => ?_)
        refine mv F rfl fun a F => ?_
        replace H := Hp.litOwn (kd := kByte) (xs := []) (H) (SayL.nil) (Nat.le_of_ble_eq_true rfl)
        obtain ⟨c29, h⟩ := guardO h
        obtain ⟨A30, c31, _, hr, H⟩ := Hp.appendRd (kd := kByte) (xs := []) (ys := x5) (H) 4 rfl (F.ev (x := .tmp 49) rfl) (F.ev (x := .tmp 50) rfl) Try.underlying22 ti5 rfl (by decide) (by decide) c29
        rw [List.nil_append] at hr H
        refine ls (qv F (hr _ _ _ _ _) fun a F => ?_)
        refine mv F rfl fun a F => ?_
        refine ls (lbs F H (e := 5) (vs := [(0, .int .u8 a2)]) (cs := [.int .u8 a2]) rfl (fun w => by kernel_rfl) fun g32 w a H F => ?_)
        obtain ⟨c33, h⟩ := guardO h
        obtain ⟨A34, c35, _, hr, H⟩ := Hp.appendCelL (kd := kByte) (xs := x5) (ys := [a2]) (H.f4.f4.f4.f3.f4) (F.ev (x := .tmp 51) rfl) (F.ev (x := .tmp 53) rfl) Try.underlying22 ti5 rfl (by decide) (by decide) rfl ((SayL.cons (kd := kByte) (c1 := [.int .u8 a2]) (y := a2) (fun Z hp => ⟨rfl, ha2⟩) SayL.nil)) c33
        refine ls (qv F (hr _ _ _ _ _) fun a F => ?_)
        replace H := (H).freeze
        obtain ⟨⟨x36, x37⟩, e38, h⟩ := Option.bind_eq_some_iff.1 h
        try dsimp only at h
        refine ls (call F Try.func10 (sector_Get_ok (H.p0) e38) rfl rfl fun v w hR a F => ?_)
        obtain ⟨A39, c40, rfl, H⟩ := hR
        refine mv F rfl fun a F => ?_
        refine ls (qv F (r_ex (F.ev (x := .tmp 48) rfl) rfl) fun a F => ?_)
        refine ls (qv F (r_ex (F.ev (x := .tmp 48) rfl) rfl) fun a F => ?_)
        refine ls (lal F H ti24 (cs := [.int .i64 0, .int .i64 0, .int .i64 0, .int .i64 0, .slice none 0 0]) rfl fun g41 w a H F => ?_)
        obtain ⟨_, hr, H⟩ := Hp.store (t := 24) (o := 0) (n := 5) (vs := [.int .i64 x36.Gen, .int .i64 x36.Place, .int .i64 x36.Parts, .int .i64 x36.Kept, .slice A39 x36.Body.length c40]) (cs' := [.int .i64 x36.Gen, .int .i64 x36.Place, .int .i64 x36.Parts, .int .i64 x36.Kept, .slice A39 x36.Body.length c40]) (H) (F.ev (x := .tmp 13) rfl) (F.ev (x := .tmp 56) rfl) rfl sz24 rfl (Nat.le_of_ble_eq_true rfl) rfl rfl
        refine ls (qn F (.inl rfl) (hr _ _ _ _) fun a F => ?_)
        refine as_ F rfl fun a F => ?_
        refine rgend ?_
        replace F := F.only [14, 12, 8, 7, 3, 1, 2] (l' := [(14, .bool x37), (12, .bool x23), (8, .slice A7 x5.length c8), (7, .bool x2), (3, .pointer (some ⟨g1, 0, none⟩)), (1, .int .u8 a1), (2, .int .u8 a2)]) rfl
        refine wp_seq ?_
        replace H := H.drew
        have HS := H
        refine dr (fun w => Hp w0 (rd kByte A39 c40 x36.Body :: rd kByte A34 c35 ((x5 ++ ([a2]))) :: rd kByte A25 c26 x22.Body :: rd kByte A20 c21 (((x5.take ((IntKind.i64.wrap a1).tmod 64).toNat).drop ((0 : Int)).toNat)) :: rd kByte A14 c15 x11.Body :: rd kByte (some ⟨g9, 0, none⟩) ((List.replicate (IntKind.i64.wrap a1 : Int).toNat (0 : Int)).length) (List.replicate (IntKind.i64.wrap a1 : Int).toNat (0 : Int)) :: rd kByte A7 c8 x5 :: rd kByte A0_4 c0_4 a0.Body :: ps) (cel g41 [.int .i64 x36.Gen, .int .i64 x36.Place, .int .i64 x36.Parts, .int .i64 x36.Kept, .slice A39 x36.Body.length c40] 24 :: cel g27 [.int .i64 x22.Gen, .int .i64 x22.Place, .int .i64 x22.Parts, .int .i64 x22.Kept, .slice A25 x22.Body.length c26] 24 :: cel g16 [.int .i64 x11.Gen, .int .i64 x11.Place, .int .i64 x11.Parts, .int .i64 x11.Kept, .slice A14 x11.Body.length c15] 24 :: cel g1 [.int .i64 a0.Gen, .int .i64 a0.Place, .int .i64 a0.Parts, .int .i64 a0.Kept, .slice A0_4 a0.Body.length c0_4] 24 :: fs) w) _ (by kernel_rfl) ?_ (n := 14)
        refine dq 0 F rfl (by kernel_rfl) NP HS (fun w S => (r_fa (off := 4) (F.ev (x := .tmp 3) rfl) fa24_4)) fun a F => ?_
        refine dq 1 F rfl (by kernel_rfl) NP HS (fun w S => (r_ld (F.ev (x := .tmp 58) rfl) (cel_cell (o := 4) (S.cell 3 rfl) rfl) one22)) fun a F => ?_
        refine dq 2 F rfl (by kernel_rfl) NP HS (fun w S => (r_len (F.ev (x := .tmp 59) rfl) Try.underlying22)) fun a F => ?_
        refine dq 3 F rfl (by kernel_rfl) NP HS (fun w S => (r_add (F.ev (x := .const (.int .i64 14)) rfl) (F.ev (x := .tmp 60) rfl))) fun a F => ?_
        refine dq 4 F rfl (by kernel_rfl) NP HS (fun w S => (r_mv (F.ev (x := .tmp 1) rfl))) fun a F => ?_
        refine dq 5 F rfl (by kernel_rfl) NP HS (fun w S => (r_ci (F.ev (x := .tmp 62) rfl) Try.underlying3 Try.underlying5)) fun a F => ?_
        refine dq 6 F rfl (by kernel_rfl) NP HS (fun w S => (r_fa (off := 4) (F.ev (x := .tmp 3) rfl) fa24_4)) fun a F => ?_
        refine dq 7 F rfl (by kernel_rfl) NP HS (fun w S => (r_ld (F.ev (x := .tmp 64) rfl) (cel_cell (o := 4) (S.cell 3 rfl) rfl) one22)) fun a F => ?_
        refine dq 8 F rfl (by kernel_rfl) NP HS (fun w S => (r_len (F.ev (x := .tmp 65) rfl) Try.underlying22)) fun a F => ?_
        refine dq 9 F rfl (by kernel_rfl) NP HS (fun w S => (r_sub (F.ev (x := .const (.int .i64 50)) rfl) (F.ev (x := .tmp 66) rfl))) fun a F => ?_
        refine dq 10 F rfl (by kernel_rfl) NP HS (fun w S => (r_max (F.ev (x := .tmp 67) rfl) (F.ev (x := .const (.int .i64 1)) rfl))) fun a F => ?_
        obtain ⟨c42, h⟩ := guardO h
        refine dq 11 F rfl (by kernel_rfl) NP HS (fun w S => (r_rem (F.ev (x := .tmp 63) rfl) (F.ev (x := .tmp 68) rfl) c42)) fun a F => ?_
        refine dq 12 F rfl (by kernel_rfl) NP HS (fun w S => (r_add (F.ev (x := .tmp 61) rfl) (F.ev (x := .tmp 69) rfl))) fun a F => ?_
        refine dq 13 F rfl (by kernel_rfl) NP HS (fun w S => (r_as (F.ev (x := .tmp 70) rfl))) fun a F => ?_
        refine ddone (by kernel_rfl) ?_
        replace F := F.only [15, 14, 12, 8, 7, 2] (l' := [(15, .int .i64 (IntKind.i64.wrap ((IntKind.i64.wrap (14 + (a0.Body.length : Int))) + ((IntKind.i64.wrap a1).tmod (max (IntKind.i64.wrap (50 - (a0.Body.length : Int))) 1))))), (14, .bool x37), (12, .bool x23), (8, .slice A7 x5.length c8), (7, .bool x2), (2, .int .u8 a2)]) rfl
        refine wp_seq ?_
        refine rg ?_
        refine mv F rfl fun a F => ?_
        refine ls (qv F (r_ge (F.ev (x := .tmp 71) rfl) (F.ev (x := .const (.int .i64 64)) rfl)) fun a F => ?_)
        refine rgend ?_
        by_cases c43 : (IntKind.i64.wrap ((IntKind.i64.wrap (14 + (a0.Body.length : Int))) + ((IntKind.i64.wrap a1).tmod (max (IntKind.i64.wrap (50 - (a0.Body.length : Int))) 1)))) ≥ 64
        · rw [if_pos c43] at h
          rw [decide_eq_true c43] at F
          refine wp_cond_true (F.ev rfl) ?_
          refine wp_seq ?_
          obtain ⟨o_44, k_44, h⟩ := Option.bind_eq_some_iff.1 h
          refine cut (fun a w => ∃ (x44 : Bool), x44 = o_44 ∧ Fr 117 [] [(6, .bool x44)] a ∧ Hp w0 ps fs w) ?_ ?_
          · skip
            refine wp_region_lit ?_
            refine mv F rfl fun a F => ?_
            refine mv F rfl fun a F => ?_
            by_cases c46 : x2 = true
            · rw [if_pos c46] at k_44
              rw [c46] at F
              refine mv F rfl fun a F => ?_
              refine ls (qv F (r_not (F.ev (x := .tmp 75) rfl)) fun a F => ?_)
              refine ls (qv F (r_pickT (F.ev (x := .tmp 74) rfl) (F.ev (x := .tmp 76) rfl)) fun a F => ?_)
              refine mv F rfl fun a F => ?_
              by_cases c47 : x23 = true
              · rw [if_pos c47] at k_44
                rw [c47] at F
                refine ls (off F fun a F => ?_)
                refine ls (off F fun a F => ?_)
                refine ls (qv F (r_pickF (F.ev (x := .tmp 78) rfl) (F.ev (x := .const (.bool false)) rfl)) fun a F => ?_)
                refine as_ F rfl fun a F => ?_
                refine wpList_nil ?_
                replace F := F.only [6] (l' := [(6, .bool false)]) rfl
                try dsimp only at k_44
                obtain rfl := Option.some.inj k_44
                exact ⟨_, rfl, F.only [6] rfl, H.px7.px6.px5.px4.px3.px2.px1.px0.fx3.fx2.fx1.fx0⟩
              · rw [if_neg c47] at k_44
                rw [Bool.eq_false_iff.2 c47] at F
                refine mv F rfl fun a F => ?_
                refine ls (qv F (r_not (F.ev (x := .tmp 79) rfl)) fun a F => ?_)
                refine ls (qv F (r_pickT (F.ev (x := .tmp 78) rfl) (F.ev (x := .tmp 80) rfl)) fun a F => ?_)
                refine as_ F rfl fun a F => ?_
                refine wpList_nil ?_
                replace F := F.only [6] (l' := [(6, .bool (!x37))]) rfl
                try dsimp only at k_44
                obtain rfl := Option.some.inj k_44
                exact ⟨_, rfl, F.only [6] rfl, H.px7.px6.px5.px4.px3.px2.px1.px0.fx3.fx2.fx1.fx0⟩
            · rw [if_neg c46] at k_44
              rw [Bool.eq_false_iff.2 c46] at F
              refine ls (off F fun a F => ?_)
              refine ls (off F fun a F => ?_)
              refine ls (qv F (r_pickF (F.ev (x := .tmp 74) rfl) (F.ev (x := .const (.bool false)) rfl)) fun a F => ?_)
              refine mv F rfl fun a F => ?_
              refine ls (off F fun a F => ?_)
              refine ls (off F fun a F => ?_)
              refine ls (qv F (r_pickF (F.ev (x := .tmp 78) rfl) (F.ev (x := .const (.bool false)) rfl)) fun a F => ?_)
              refine as_ F rfl fun a F => ?_
              refine wpList_nil ?_
              replace F := F.only [6] (l' := [(6, .bool false)]) rfl
              try dsimp only at k_44
              obtain rfl := Option.some.inj k_44
              exact ⟨_, rfl, F.only [6] rfl, H.px7.px6.px5.px4.px3.px2.px1.px0.fx3.fx2.fx1.fx0⟩
          · rintro a w ⟨x44, rfl, F, H⟩
            try dsimp only at h F H
            refine wp_ret ?_
            try dsimp only at h
            obtain rfl := Option.some.inj h
            exact RET _ _ (ret1 F rfl rfl ⟨_, rfl, rfl, H⟩)
        · rw [if_neg c43] at h
          rw [decide_eq_false c43] at F
          refine wp_cond_false (F.ev rfl) ?_
          refine wp_skip ?_
          refine rg ?_
          refine ls (lbs F H (e := 5) (vs := []) (cs := []) rfl (fun w => by kernel_rfl) fun g48 w a H F => ?_)
          refine mv F rfl fun a F => ?_
          replace H := Hp.litOwn (kd := kByte) (xs := []) (H) (SayL.nil) (Nat.le_of_ble_eq_true rfl)
          obtain ⟨c49, h⟩ := guardO h
          obtain ⟨A50, c51, _, hr, H⟩ := Hp.appendRd (kd := kByte) (xs := []) (ys := x5) (H) 6 rfl (F.ev (x := .tmp 82) rfl) (F.ev (x := .tmp 83) rfl) Try.underlying22 ti5 rfl (by decide) (by decide) c49
          rw [List.nil_append] at hr H
          refine ls (qv F (hr _ _ _ _ _) fun a F => ?_)
          refine as_ F rfl fun a F => ?_
          refine rgend ?_
          replace F := F.only [16, 15, 14, 12, 7, 2] (l' := [(16, .slice A50 x5.length c51), (15, .int .i64 (IntKind.i64.wrap ((IntKind.i64.wrap (14 + (a0.Body.length : Int))) + ((IntKind.i64.wrap a1).tmod (max (IntKind.i64.wrap (50 - (a0.Body.length : Int))) 1))))), (14, .bool x37), (12, .bool x23), (7, .bool x2), (2, .int .u8 a2)]) rfl
          refine rg ?_
          refine mv F rfl fun a F => ?_
          refine mv F rfl fun a F => ?_
          refine mv F rfl fun a F => ?_
          obtain ⟨c52, h⟩ := guardO h
          obtain ⟨g53, s54, hA, hq56, hl55, H⟩ := H.ixOwn2 0 0 rfl (F.ev (x := .tmp 85) rfl) (F.ev (x := .tmp 86) rfl) Try.underlying22 sz5 (by decide) c52.1 c52.2
          cases hA
          obtain ⟨rfl, hr57⟩ := H.says_byte 0 rfl
          refine ls (qv F (hq56 _ _ _ _ _ _) fun a F => ?_)
          obtain ⟨_, hr, H⟩ := Hp.setOwn (kd := kByte) (xs := x5) (j := (IntKind.i64.wrap ((IntKind.i64.wrap (14 + (a0.Body.length : Int))) + ((IntKind.i64.wrap a1).tmod (max (IntKind.i64.wrap (50 - (a0.Body.length : Int))) 1))) : Int).toNat) (x1 := a2) (H) (F.ev (x := .tmp 88) rfl) (F.ev (x := .tmp 87) rfl) rfl sz5 (by have := c52; omega) (fun Z hp => ⟨rfl, ha2⟩)
          refine ls (qn F (.inl rfl) (hr _ _ _ _) fun a F => ?_)
          replace F := F.only [88, 87, 86, 85, 16, 15, 14, 12, 7, 2] (l' := [(88, .pointer (some ⟨g53, (IntKind.i64.wrap ((IntKind.i64.wrap (14 + (a0.Body.length : Int))) + ((IntKind.i64.wrap a1).tmod (max (IntKind.i64.wrap (50 - (a0.Body.length : Int))) 1))) : Int).toNat * kByte.sz, none⟩)), (87, .int .u8 a2), (86, .int .i64 (IntKind.i64.wrap ((IntKind.i64.wrap (14 + (a0.Body.length : Int))) + ((IntKind.i64.wrap a1).tmod (max (IntKind.i64.wrap (50 - (a0.Body.length : Int))) 1))))), (85, .slice (some ⟨g53, 0, none⟩) ((x5.set (IntKind.i64.wrap ((IntKind.i64.wrap (14 + (a0.Body.length : Int))) + ((IntKind.i64.wrap a1).tmod (max (IntKind.i64.wrap (50 - (a0.Body.length : Int))) 1))) : Int).toNat a2)).length c51), (16, .slice (some ⟨g53, 0, none⟩) ((x5.set (IntKind.i64.wrap ((IntKind.i64.wrap (14 + (a0.Body.length : Int))) + ((IntKind.i64.wrap a1).tmod (max (IntKind.i64.wrap (50 - (a0.Body.length : Int))) 1))) : Int).toNat a2)).length c51), (15, .int .i64 (IntKind.i64.wrap ((IntKind.i64.wrap (14 + (a0.Body.length : Int))) + ((IntKind.i64.wrap a1).tmod (max (IntKind.i64.wrap (50 - (a0.Body.length : Int))) 1))))), (14, .bool x37), (12, .bool x23), (7, .bool x2), (2, .int .u8 a2)]) (by (try simp only [List.length_set]); rfl)
          refine rgend ?_
          replace F := F.only [16, 14, 12, 7, 2] (l' := [(16, .slice (some ⟨g53, 0, none⟩) ((x5.set (IntKind.i64.wrap ((IntKind.i64.wrap (14 + (a0.Body.length : Int))) + ((IntKind.i64.wrap a1).tmod (max (IntKind.i64.wrap (50 - (a0.Body.length : Int))) 1))) : Int).toNat a2)).length c51), (14, .bool x37), (12, .bool x23), (7, .bool x2), (2, .int .u8 a2)]) rfl
          refine rg ?_
          refine mv F rfl fun a F => ?_
          replace H := (H).freeze
          obtain ⟨⟨x58, x59⟩, e60, h⟩ := Option.bind_eq_some_iff.1 h
          try dsimp only at h
          refine ls (call F Try.func10 (sector_Get_ok (H.p0) e60) rfl rfl fun v w hR a F => ?_)
          obtain ⟨A61, c62, rfl, H⟩ := hR
          refine mv F rfl fun a F => ?_
          refine ls (qv F (r_ex (F.ev (x := .tmp 89) rfl) rfl) fun a F => ?_)
          refine ls (qv F (r_ex (F.ev (x := .tmp 89) rfl) rfl) fun a F => ?_)
          refine ls (lal F H ti24 (cs := [.int .i64 0, .int .i64 0, .int .i64 0, .int .i64 0, .slice none 0 0]) rfl fun g63 w a H F => ?_)
          obtain ⟨_, hr, H⟩ := Hp.store (t := 24) (o := 0) (n := 5) (vs := [.int .i64 x58.Gen, .int .i64 x58.Place, .int .i64 x58.Parts, .int .i64 x58.Kept, .slice A61 x58.Body.length c62]) (cs' := [.int .i64 x58.Gen, .int .i64 x58.Place, .int .i64 x58.Parts, .int .i64 x58.Kept, .slice A61 x58.Body.length c62]) (H) (F.ev (x := .tmp 17) rfl) (F.ev (x := .tmp 92) rfl) rfl sz24 rfl (Nat.le_of_ble_eq_true rfl) rfl rfl
          refine ls (qn F (.inl rfl) (hr _ _ _ _) fun a F => ?_)
          refine as_ F rfl fun a F => ?_
          refine rgend ?_
          replace F := F.only [18, 17, 14, 12, 7, 2] (l' := [(18, .bool x59), (17, .pointer (some ⟨g63, 0, none⟩)), (14, .bool x37), (12, .bool x23), (7, .bool x2), (2, .int .u8 a2)]) rfl
          refine wp_seq ?_
          obtain ⟨o_64, k_64, h⟩ := Option.bind_eq_some_iff.1 h
          refine cut (fun a w => ∃ (x64 : Bool), x64 = o_64 ∧ Fr 117 [] [(6, .bool x64)] a ∧ Hp w0 ps fs w) ?_ ?_
          · skip
            refine wp_region_lit ?_
            refine mv F rfl fun a F => ?_
            refine mv F rfl fun a F => ?_
            by_cases c66 : x2 = true
            · rw [if_pos c66] at k_64
              rw [c66] at F
              refine mv F rfl fun a F => ?_
              refine ls (qv F (r_not (F.ev (x := .tmp 96) rfl)) fun a F => ?_)
              refine ls (qv F (r_pickT (F.ev (x := .tmp 95) rfl) (F.ev (x := .tmp 97) rfl)) fun a F => ?_)
              refine mv F rfl fun a F => ?_
              by_cases c67 : x23 = true
              · rw [if_pos c67] at k_64
                rw [c67] at F
                refine ls (off F fun a F => ?_)
                refine ls (off F fun a F => ?_)
                refine ls (qv F (r_pickF (F.ev (x := .tmp 99) rfl) (F.ev (x := .const (.bool false)) rfl)) fun a F => ?_)
                refine mv F rfl fun a F => ?_
                refine ls (off F fun a F => ?_)
                refine ls (off F fun a F => ?_)
                refine ls (off F fun a F => ?_)
                refine ls (off F fun a F => ?_)
                refine ls (qv F (r_pickF (F.ev (x := .tmp 103) rfl) (F.ev (x := .const (.bool false)) rfl)) fun a F => ?_)
                refine mv F rfl fun a F => ?_
                refine ls (off F fun a F => ?_)
                refine ls (off F fun a F => ?_)
                refine ls (off F fun a F => ?_)
                refine ls (off F fun a F => ?_)
                refine ls (off F fun a F => ?_)
                refine ls (off F fun a F => ?_)
                refine ls (qv F (r_pickF (F.ev (x := .tmp 109) rfl) (F.ev (x := .const (.bool false)) rfl)) fun a F => ?_)
                refine as_ F rfl fun a F => ?_
                refine wpList_nil ?_
                replace F := F.only [6] (l' := [(6, .bool false)]) rfl
                try dsimp only at k_64
                obtain rfl := Option.some.inj k_64
                exact ⟨_, rfl, F.only [6] rfl, H.px10.px9.px8.px7.px6.px5.px4.px3.px2.px1.px0.fx4.fx3.fx2.fx1.fx0⟩
              · rw [if_neg c67] at k_64
                rw [Bool.eq_false_iff.2 c67] at F
                refine mv F rfl fun a F => ?_
                refine ls (qv F (r_not (F.ev (x := .tmp 100) rfl)) fun a F => ?_)
                refine ls (qv F (r_pickT (F.ev (x := .tmp 99) rfl) (F.ev (x := .tmp 101) rfl)) fun a F => ?_)
                refine mv F rfl fun a F => ?_
                by_cases c68 : x37 = true
                · rw [if_pos c68] at k_64
                  rw [c68] at F
                  refine ls (off F fun a F => ?_)
                  refine ls (off F fun a F => ?_)
                  refine ls (off F fun a F => ?_)
                  refine ls (off F fun a F => ?_)
                  refine ls (qv F (r_pickF (F.ev (x := .tmp 103) rfl) (F.ev (x := .const (.bool false)) rfl)) fun a F => ?_)
                  refine mv F rfl fun a F => ?_
                  refine ls (off F fun a F => ?_)
                  refine ls (off F fun a F => ?_)
                  refine ls (off F fun a F => ?_)
                  refine ls (off F fun a F => ?_)
                  refine ls (off F fun a F => ?_)
                  refine ls (off F fun a F => ?_)
                  refine ls (qv F (r_pickF (F.ev (x := .tmp 109) rfl) (F.ev (x := .const (.bool false)) rfl)) fun a F => ?_)
                  refine as_ F rfl fun a F => ?_
                  refine wpList_nil ?_
                  replace F := F.only [6] (l' := [(6, .bool false)]) rfl
                  try dsimp only at k_64
                  obtain rfl := Option.some.inj k_64
                  exact ⟨_, rfl, F.only [6] rfl, H.px10.px9.px8.px7.px6.px5.px4.px3.px2.px1.px0.fx4.fx3.fx2.fx1.fx0⟩
                · rw [if_neg c68] at k_64
                  rw [Bool.eq_false_iff.2 c68] at F
                  refine mv F rfl fun a F => ?_
                  refine mv F rfl fun a F => ?_
                  refine ls (qv F (r_eq (F.ev (x := .tmp 105) rfl) (F.ev (x := .const (.int .u8 0)) rfl)) fun a F => ?_)
                  refine ls (qv F (r_beq (F.ev (x := .tmp 104) rfl) (F.ev (x := .tmp 106) rfl) Try.underlying4) fun a F => ?_)
                  refine ls (qv F (r_pickT (F.ev (x := .tmp 103) rfl) (F.ev (x := .tmp 107) rfl)) fun a F => ?_)
                  refine mv F rfl fun a F => ?_
                  by_cases c69 : ((x59 == (decide (a2 = 0)))) = true
                  · rw [if_pos c69] at k_64
                    rw [c69] at F
                    refine mv F rfl fun a F => ?_
                    refine mv F rfl fun a F => ?_
                    by_cases c70 : x59 = true
                    · rw [if_pos c70] at k_64
                      rw [c70] at F
                      refine ls (off F fun a F => ?_)
                      refine ls (off F fun a F => ?_)
                      refine ls (off F fun a F => ?_)
                      refine ls (qv F (r_pickT (F.ev (x := .tmp 111) rfl) (F.ev (x := .const (.bool true)) rfl)) fun a F => ?_)
                      refine ls (qv F (r_pickT (F.ev (x := .tmp 109) rfl) (F.ev (x := .tmp 115) rfl)) fun a F => ?_)
                      refine as_ F rfl fun a F => ?_
                      refine wpList_nil ?_
                      replace F := F.only [6] (l' := [(6, .bool true)]) rfl
                      try dsimp only at k_64
                      obtain rfl := Option.some.inj k_64
                      exact ⟨_, rfl, F.only [6] rfl, H.px10.px9.px8.px7.px6.px5.px4.px3.px2.px1.px0.fx4.fx3.fx2.fx1.fx0⟩
                    · rw [if_neg c70] at k_64
                      rw [Bool.eq_false_iff.2 c70] at F
                      refine ls (qv F (r_ldA (F.ev (x := .tmp 17) rfl) (cel_range (o := 0) (n := 5) (vs := [.int .i64 x58.Gen, .int .i64 x58.Place, .int .i64 x58.Parts, .int .i64 x58.Kept, .slice A61 x58.Body.length c62]) (H.cell 0 rfl) rfl) agg24 rfl) fun a F => ?_)
                      refine ls (lbd F (vs := []) (cs := [.int .i64 0, .int .i64 0, .int .i64 0, .int .i64 0, .slice none 0 0]) rfl (fun w => by kernel_rfl) fun a F => ?_)
                      replace H := H.nilRd kByte
                      obtain ⟨x71, e72, k_64⟩ := Option.bind_eq_some_iff.1 k_64
                      try dsimp only at k_64
                      refine ls (call F Try.func16 (ref16_Same_ok (a0 := x58) (a1 := (⟨0, 0, 0, 0, []⟩ : api_Sector)) (H.p0.p2) e72) rfl rfl fun v w hR a F => ?_)
                      obtain ⟨rfl, H⟩ := hR
                      refine ls (qv F (r_pickF (F.ev (x := .tmp 111) rfl) (F.ev (x := .tmp 114) rfl)) fun a F => ?_)
                      refine ls (qv F (r_pickT (F.ev (x := .tmp 109) rfl) (F.ev (x := .tmp 115) rfl)) fun a F => ?_)
                      refine as_ F rfl fun a F => ?_
                      refine wpList_nil ?_
                      replace F := F.only [6] (l' := [(6, .bool x71)]) rfl
                      try dsimp only at k_64
                      obtain rfl := Option.some.inj k_64
                      exact ⟨_, rfl, F.only [6] rfl, H.px11.px10.px9.px8.px7.px6.px5.px4.px3.px2.px1.px0.fx4.fx3.fx2.fx1.fx0⟩
                  · rw [if_neg c69] at k_64
                    rw [Bool.eq_false_iff.2 c69] at F
                    refine ls (off F fun a F => ?_)
                    refine ls (off F fun a F => ?_)
                    refine ls (off F fun a F => ?_)
                    refine ls (off F fun a F => ?_)
                    refine ls (off F fun a F => ?_)
                    refine ls (off F fun a F => ?_)
                    refine ls (qv F (r_pickF (F.ev (x := .tmp 109) rfl) (F.ev (x := .const (.bool false)) rfl)) fun a F => ?_)
                    refine as_ F rfl fun a F => ?_
                    refine wpList_nil ?_
                    replace F := F.only [6] (l' := [(6, .bool false)]) rfl
                    try dsimp only at k_64
                    obtain rfl := Option.some.inj k_64
                    exact ⟨_, rfl, F.only [6] rfl, H.px10.px9.px8.px7.px6.px5.px4.px3.px2.px1.px0.fx4.fx3.fx2.fx1.fx0⟩
            · rw [if_neg c66] at k_64
              rw [Bool.eq_false_iff.2 c66] at F
              refine ls (off F fun a F => ?_)
              refine ls (off F fun a F => ?_)
              refine ls (qv F (r_pickF (F.ev (x := .tmp 95) rfl) (F.ev (x := .const (.bool false)) rfl)) fun a F => ?_)
              refine mv F rfl fun a F => ?_
              refine ls (off F fun a F => ?_)
              refine ls (off F fun a F => ?_)
              refine ls (qv F (r_pickF (F.ev (x := .tmp 99) rfl) (F.ev (x := .const (.bool false)) rfl)) fun a F => ?_)
              refine mv F rfl fun a F => ?_
              refine ls (off F fun a F => ?_)
              refine ls (off F fun a F => ?_)
              refine ls (off F fun a F => ?_)
              refine ls (off F fun a F => ?_)
              refine ls (qv F (r_pickF (F.ev (x := .tmp 103) rfl) (F.ev (x := .const (.bool false)) rfl)) fun a F => ?_)
              refine mv F rfl fun a F => ?_
              refine ls (off F fun a F => ?_)
              refine ls (off F fun a F => ?_)
              refine ls (off F fun a F => ?_)
              refine ls (off F fun a F => ?_)
              refine ls (off F fun a F => ?_)
              refine ls (off F fun a F => ?_)
              refine ls (qv F (r_pickF (F.ev (x := .tmp 109) rfl) (F.ev (x := .const (.bool false)) rfl)) fun a F => ?_)
              refine as_ F rfl fun a F => ?_
              refine wpList_nil ?_
              replace F := F.only [6] (l' := [(6, .bool false)]) rfl
              try dsimp only at k_64
              obtain rfl := Option.some.inj k_64
              exact ⟨_, rfl, F.only [6] rfl, H.px10.px9.px8.px7.px6.px5.px4.px3.px2.px1.px0.fx4.fx3.fx2.fx1.fx0⟩
          · rintro a w ⟨x64, rfl, F, H⟩
            try dsimp only at h F H
            refine wp_ret ?_
            try dsimp only at h
            obtain rfl := Option.some.inj h
            exact RET _ _ (ret1 F rfl rfl ⟨_, rfl, rfl, H⟩)
end Go.Proofs.Ytpijdclonniibaa
