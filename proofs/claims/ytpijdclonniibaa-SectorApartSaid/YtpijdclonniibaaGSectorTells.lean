/- What the functions compute. Printed by wip/gen. -/
import Derived.Test.YtpijdclonniibaaGL
set_option linter.unusedVariables false
set_option linter.unusedSimpArgs false
namespace Go.Proofs.Ytpijdclonniibaa
open Go Go.RowKit
def law16_SectorTells_f (a0 : api_Sector) (a1 : List Int) : Option (Bool) :=
  ((law16_head_f).bind fun x2 => (if (a0.Body.length : Int) > 900 then some x2 else (if (a1.length : Int) > 900 then some x2 else ((sector_Get_f a1).bind fun (x6, x7) => ((ref16_Get_f a1).bind fun (x12, x13) => (((if x2 = true then ((sector_Right_f a0).bind fun x21 => ((ref16_Right_f a0).bind fun x23 => (if (x21 == x23) = true then ((sector_Put_f a0).bind fun x26 => ((ref16_Put_f a0).bind fun x31 => (if x26 = x31 then ((ref16_Same_f x6 x12).bind fun x37 => (if x37 = true then some ((x7 == x13)) else some false)) else some false))) else some false))) else some false) : Option (Bool)).bind fun x18 => some x18))))))
set_option maxHeartbeats 4000000 in
set_option maxRecDepth 20000 in
theorem law16_SectorTells_ok {w0 w : World} {ps : List PF} {fs : List SF} {a0 : api_Sector} {A0_4 : Option Addr} {c0_4 : Nat} {a1 : List Int} {A1_ : Option Addr} {c1_ : Nat} {r0 : Bool} (H : Hp w0 (rd kByte A0_4 c0_4 a0.Body :: rd kByte A1_ c1_ a1 :: ps) fs w) (h : law16_SectorTells_f a0 a1 = some r0) :
    Calls Try.prog 3 [.agg #[.int .i64 a0.Gen, .int .i64 a0.Place, .int .i64 a0.Parts, .int .i64 a0.Kept, .slice A0_4 a0.Body.length c0_4], .slice A1_ a1.length c1_].toArray w fun e w' => ∃ v, e = .returned v ∧ v = .bool r0 ∧ Hp w0 ps fs w' := by
  refine enter [.agg #[.int .i64 a0.Gen, .int .i64 a0.Place, .int .i64 a0.Parts, .int .i64 a0.Kept, .slice A0_4 a0.Body.length c0_4], .slice A1_ a1.length c1_] 58 Try.func3 fun Q a NP RET NRM F => ?_
  replace NP : ∀ c a w, ¬ Q (.panic c) a w := fun c a w h => by rcases NP c a w h with h | ⟨w, v, h, _⟩ <;> cases h
  unfold law16_SectorTells_f at h
  refine rg ?_
  refine ls (lbox F H rfl (cs := [.int .i64 a0.Gen, .int .i64 a0.Place, .int .i64 a0.Parts, .int .i64 a0.Kept, .slice A0_4 a0.Body.length c0_4]) rfl fun g1 w a H F => ?_)
  refine as_ F (v := .bool false) rfl fun a F => ?_
  refine rgend ?_
  refine rg ?_
  obtain ⟨x2, e3, h⟩ := Option.bind_eq_some_iff.1 h
  try dsimp only at h
  refine ls (call F Try.func9 (law16_head_ok (H) e3) rfl rfl fun v w hR a F => ?_)
  obtain ⟨rfl, H⟩ := hR
  refine as_ F rfl fun a F => ?_
  refine rgend ?_
  refine wp_seq ?_
  refine rg ?_
  refine ls (qv F (r_fa (off := 4) (F.ev (x := .tmp 2) rfl) fa24_4) fun a F => ?_)
  refine ls (qv F (r_ld (F.ev (x := .tmp 11) rfl) (cel_cell (o := 4) (H.cell 0 rfl) rfl) one22) fun a F => ?_)
  refine ls (qv F (r_len (F.ev (x := .tmp 12) rfl) Try.underlying22) fun a F => ?_)
  refine ls (qv F (r_gt (F.ev (x := .tmp 13) rfl) (F.ev (x := .const (.int .i64 900)) rfl)) fun a F => ?_)
  refine mv F rfl fun a F => ?_
  by_cases c4 : (a0.Body.length : Int) > 900
  · rw [if_pos c4] at h
    rw [decide_eq_true c4] at F
    refine ls (off F fun a F => ?_)
    refine ls (off F fun a F => ?_)
    refine ls (off F fun a F => ?_)
    refine ls (qv F (r_pickT (F.ev (x := .tmp 15) rfl) (F.ev (x := .const (.bool true)) rfl)) fun a F => ?_)
    refine rgend ?_
    replace F := F.only [19, 5, 2, 1] (l' := [(19, .bool true), (5, .bool x2), (2, .pointer (some ⟨g1, 0, none⟩)), (1, .slice A1_ a1.length c1_)]) rfl
    refine wp_cond_true (F.ev rfl) ?_
    refine rg ?_
    refine mv F rfl fun a F => ?_
    refine as_ F rfl fun a F => ?_
    refine rgend ?_
    replace F := F.only [4] (l' := [(4, .bool x2)]) rfl
    refine wp_ret ?_
    try dsimp only at h
    obtain rfl := Option.some.inj h
    exact RET _ _ (ret1 F rfl rfl ⟨_, rfl, rfl, H.px1.px0.fx0⟩)
  · rw [if_neg c4] at h
    rw [decide_eq_false c4] at F
    refine mv F rfl fun a F => ?_
    refine ls (qv F (r_len (F.ev (x := .tmp 16) rfl) Try.underlying22) fun a F => ?_)
    refine ls (qv F (r_gt (F.ev (x := .tmp 17) rfl) (F.ev (x := .const (.int .i64 900)) rfl)) fun a F => ?_)
    refine ls (qv F (r_pickF (F.ev (x := .tmp 15) rfl) (F.ev (x := .tmp 18) rfl)) fun a F => ?_)
    refine rgend ?_
    replace F := F.only [19, 5, 2, 1] (l' := [(19, .bool (decide ((a1.length : Int) > 900))), (5, .bool x2), (2, .pointer (some ⟨g1, 0, none⟩)), (1, .slice A1_ a1.length c1_)]) rfl
    by_cases c5 : (a1.length : Int) > 900
    · rw [if_pos c5] at h
      rw [decide_eq_true c5] at F
      refine wp_cond_true (F.ev rfl) ?_
      refine rg ?_
      refine mv F rfl fun a F => ?_
      refine as_ F rfl fun a F => ?_
      refine rgend ?_
      replace F := F.only [4] (l' := [(4, .bool x2)]) rfl
      refine wp_ret ?_
      try dsimp only at h
      obtain rfl := Option.some.inj h
      exact RET _ _ (ret1 F rfl rfl ⟨_, rfl, rfl, H.px1.px0.fx0⟩)
    · rw [if_neg c5] at h
      rw [decide_eq_false c5] at F
      refine wp_cond_false (F.ev rfl) ?_
      refine wp_skip ?_
      refine rg ?_
      refine mv F rfl fun a F => ?_
      obtain ⟨⟨x6, x7⟩, e8, h⟩ := Option.bind_eq_some_iff.1 h
      try dsimp only at h
      refine ls (call F Try.func10 (sector_Get_ok (H.p1) e8) rfl rfl fun v w hR a F => ?_)
      obtain ⟨A9, c10, rfl, H⟩ := hR
      refine mv F rfl fun a F => ?_
      refine ls (qv F (r_ex (F.ev (x := .tmp 21) rfl) rfl) fun a F => ?_)
      refine ls (qv F (r_ex (F.ev (x := .tmp 21) rfl) rfl) fun a F => ?_)
      refine ls (lal F H ti24 (cs := [.int .i64 0, .int .i64 0, .int .i64 0, .int .i64 0, .slice none 0 0]) rfl fun g11 w a H F => ?_)
      obtain ⟨_, hr, H⟩ := Hp.store (t := 24) (o := 0) (n := 5) (vs := [.int .i64 x6.Gen, .int .i64 x6.Place, .int .i64 x6.Parts, .int .i64 x6.Kept, .slice A9 x6.Body.length c10]) (cs' := [.int .i64 x6.Gen, .int .i64 x6.Place, .int .i64 x6.Parts, .int .i64 x6.Kept, .slice A9 x6.Body.length c10]) (H) (F.ev (x := .tmp 6) rfl) (F.ev (x := .tmp 24) rfl) rfl sz24 rfl (Nat.le_of_ble_eq_true rfl) rfl rfl
      refine ls (qn F (.inl rfl) (hr _ _ _ _) fun a F => ?_)
      refine as_ F rfl fun a F => ?_
      refine rgend ?_
      replace F := F.only [7, 6, 5, 2, 1] (l' := [(7, .bool x7), (6, .pointer (some ⟨g11, 0, none⟩)), (5, .bool x2), (2, .pointer (some ⟨g1, 0, none⟩)), (1, .slice A1_ a1.length c1_)]) rfl
      refine rg ?_
      refine mv F rfl fun a F => ?_
      obtain ⟨⟨x12, x13⟩, e14, h⟩ := Option.bind_eq_some_iff.1 h
      try dsimp only at h
      refine ls (call F Try.func11 (ref16_Get_ok (H.p2) e14) rfl rfl fun v w hR a F => ?_)
      obtain ⟨A15, c16, rfl, H⟩ := hR
      refine mv F rfl fun a F => ?_
      refine ls (qv F (r_ex (F.ev (x := .tmp 26) rfl) rfl) fun a F => ?_)
      refine ls (qv F (r_ex (F.ev (x := .tmp 26) rfl) rfl) fun a F => ?_)
      refine ls (lal F H ti24 (cs := [.int .i64 0, .int .i64 0, .int .i64 0, .int .i64 0, .slice none 0 0]) rfl fun g17 w a H F => ?_)
      obtain ⟨_, hr, H⟩ := Hp.store (t := 24) (o := 0) (n := 5) (vs := [.int .i64 x12.Gen, .int .i64 x12.Place, .int .i64 x12.Parts, .int .i64 x12.Kept, .slice A15 x12.Body.length c16]) (cs' := [.int .i64 x12.Gen, .int .i64 x12.Place, .int .i64 x12.Parts, .int .i64 x12.Kept, .slice A15 x12.Body.length c16]) (H) (F.ev (x := .tmp 8) rfl) (F.ev (x := .tmp 29) rfl) rfl sz24 rfl (Nat.le_of_ble_eq_true rfl) rfl rfl
      refine ls (qn F (.inl rfl) (hr _ _ _ _) fun a F => ?_)
      refine as_ F rfl fun a F => ?_
      refine rgend ?_
      replace F := F.only [9, 8, 7, 6, 5, 2] (l' := [(9, .bool x13), (8, .pointer (some ⟨g17, 0, none⟩)), (7, .bool x7), (6, .pointer (some ⟨g11, 0, none⟩)), (5, .bool x2), (2, .pointer (some ⟨g1, 0, none⟩))]) rfl
      refine wp_seq ?_
      obtain ⟨o_18, k_18, h⟩ := Option.bind_eq_some_iff.1 h
      refine cut (fun a w => ∃ (x18 : Bool), x18 = o_18 ∧ Fr 58 [] [(4, .bool x18)] a ∧ Hp w0 ps fs w) ?_ ?_
      · skip
        replace H := H.drew
        have HS := H
        refine dr (fun w => Hp w0 (rd kByte A15 c16 x12.Body :: rd kByte A9 c10 x6.Body :: rd kByte A0_4 c0_4 a0.Body :: rd kByte A1_ c1_ a1 :: ps) (cel g17 [.int .i64 x12.Gen, .int .i64 x12.Place, .int .i64 x12.Parts, .int .i64 x12.Kept, .slice A15 x12.Body.length c16] 24 :: cel g11 [.int .i64 x6.Gen, .int .i64 x6.Place, .int .i64 x6.Parts, .int .i64 x6.Kept, .slice A9 x6.Body.length c10] 24 :: cel g1 [.int .i64 a0.Gen, .int .i64 a0.Place, .int .i64 a0.Parts, .int .i64 a0.Kept, .slice A0_4 a0.Body.length c0_4] 24 :: fs) w) _ (by kernel_rfl) ?_ (n := 28)
        refine dq 0 F rfl (by kernel_rfl) NP HS (fun w S => (r_mv (F.ev (x := .tmp 5) rfl))) fun a F => ?_
        refine dq 1 F rfl (by kernel_rfl) NP HS (fun w S => (r_mv (F.ev (x := .tmp 31) rfl))) fun a F => ?_
        by_cases c20 : x2 = true
        · rw [if_pos c20] at k_18
          rw [c20] at F
          refine dq 2 F rfl (by kernel_rfl) NP HS (fun w S => (r_ldA (F.ev (x := .tmp 2) rfl) (cel_range (o := 0) (n := 5) (vs := [.int .i64 a0.Gen, .int .i64 a0.Place, .int .i64 a0.Parts, .int .i64 a0.Kept, .slice A0_4 a0.Body.length c0_4]) (S.cell 2 rfl) rfl) agg24 rfl)) fun a F => ?_
          refine dq 4 F rfl (by kernel_rfl) NP HS (fun w S => (r_ldA (F.ev (x := .tmp 2) rfl) (cel_range (o := 0) (n := 5) (vs := [.int .i64 a0.Gen, .int .i64 a0.Place, .int .i64 a0.Parts, .int .i64 a0.Kept, .slice A0_4 a0.Body.length c0_4]) (S.cell 2 rfl) rfl) agg24 rfl)) fun a F => ?_
          obtain ⟨x21, e22, k_18⟩ := Option.bind_eq_some_iff.1 k_18
          try dsimp only at k_18
          refine d1 3 rfl (by kernel_rfl) (call F Try.func12 (sector_Right_ok (a0 := a0) (H.p2) e22) rfl rfl fun v w hR a F => ?_)
          obtain ⟨rfl, H⟩ := hR
          have HS := H
          refine kg _ HS (fun w S => S) ?_
          obtain ⟨x23, e24, k_18⟩ := Option.bind_eq_some_iff.1 k_18
          try dsimp only at k_18
          refine d1 5 rfl (by kernel_rfl) (call F Try.func13 (ref16_Right_ok (a0 := a0) (H.p2) e24) rfl rfl fun v w hR a F => ?_)
          obtain ⟨rfl, H⟩ := hR
          have HS := H
          refine kg _ HS (fun w S => S) ?_
          refine dq 6 F rfl (by kernel_rfl) NP HS (fun w S => (r_beq (F.ev (x := .tmp 34) rfl) (F.ev (x := .tmp 36) rfl) Try.underlying4)) fun a F => ?_
          refine dq 7 F rfl (by kernel_rfl) NP HS (fun w S => (r_pickT (F.ev (x := .tmp 32) rfl) (F.ev (x := .tmp 37) rfl))) fun a F => ?_
          refine dq 8 F rfl (by kernel_rfl) NP HS (fun w S => (r_mv (F.ev (x := .tmp 38) rfl))) fun a F => ?_
          by_cases c25 : (x21 == x23) = true
          · rw [if_pos c25] at k_18
            rw [c25] at F
            refine dq 9 F rfl (by kernel_rfl) NP HS (fun w S => (r_ldA (F.ev (x := .tmp 2) rfl) (cel_range (o := 0) (n := 5) (vs := [.int .i64 a0.Gen, .int .i64 a0.Place, .int .i64 a0.Parts, .int .i64 a0.Kept, .slice A0_4 a0.Body.length c0_4]) (S.cell 2 rfl) rfl) agg24 rfl)) fun a F => ?_
            refine dq 12 F rfl (by kernel_rfl) NP HS (fun w S => (r_ldA (F.ev (x := .tmp 2) rfl) (cel_range (o := 0) (n := 5) (vs := [.int .i64 a0.Gen, .int .i64 a0.Place, .int .i64 a0.Parts, .int .i64 a0.Kept, .slice A0_4 a0.Body.length c0_4]) (S.cell 2 rfl) rfl) agg24 rfl)) fun a F => ?_
            obtain ⟨x26, e27, k_18⟩ := Option.bind_eq_some_iff.1 k_18
            try dsimp only at k_18
            refine d1 10 rfl (by kernel_rfl) (call F Try.func14 (sector_Put_ok (a0 := a0) (H.p2) e27) rfl rfl fun v w hR a F => ?_)
            obtain ⟨A28, c29, rfl, H⟩ := hR
            have HS := H
            refine kg _ HS (fun w S => S.px0) ?_
            have hb30 := H.bytes 0 rfl
            refine dq 11 F rfl (by kernel_rfl) NP HS (fun w S => (S.str 0 rfl (F.ev (x := .tmp 41) rfl) Try.underlying22 Try.underlying5 Try.underlying9)) fun a F => ?_
            obtain ⟨x31, e32, k_18⟩ := Option.bind_eq_some_iff.1 k_18
            try dsimp only at k_18
            refine d1 13 rfl (by kernel_rfl) (call F Try.func15 (ref16_Put_ok (a0 := a0) (H.p3) e32) rfl rfl fun v w hR a F => ?_)
            obtain ⟨A33, c34, rfl, H⟩ := hR
            have HS := H
            refine kg _ HS (fun w S => S.px0) ?_
            have hb35 := H.bytes 0 rfl
            refine dq 14 F rfl (by kernel_rfl) NP HS (fun w S => (S.str 0 rfl (F.ev (x := .tmp 44) rfl) Try.underlying22 Try.underlying5 Try.underlying9)) fun a F => ?_
            refine dq 15 F rfl (by kernel_rfl) NP HS (fun w S => (r_seq (F.ev (x := .tmp 42) rfl) (F.ev (x := .tmp 45) rfl) hb30 hb35)) fun a F => ?_
            refine dq 16 F rfl (by kernel_rfl) NP HS (fun w S => (r_pickT (F.ev (x := .tmp 39) rfl) (F.ev (x := .tmp 46) rfl))) fun a F => ?_
            refine dq 17 F rfl (by kernel_rfl) NP HS (fun w S => (r_mv (F.ev (x := .tmp 47) rfl))) fun a F => ?_
            by_cases c36 : x26 = x31
            · rw [if_pos c36] at k_18
              rw [decide_eq_true c36] at F
              refine dq 18 F rfl (by kernel_rfl) NP HS (fun w S => (r_ldA (F.ev (x := .tmp 6) rfl) (cel_range (o := 0) (n := 5) (vs := [.int .i64 x6.Gen, .int .i64 x6.Place, .int .i64 x6.Parts, .int .i64 x6.Kept, .slice A9 x6.Body.length c10]) (S.cell 1 rfl) rfl) agg24 rfl)) fun a F => ?_
              refine dq 19 F rfl (by kernel_rfl) NP HS (fun w S => (r_ldA (F.ev (x := .tmp 8) rfl) (cel_range (o := 0) (n := 5) (vs := [.int .i64 x12.Gen, .int .i64 x12.Place, .int .i64 x12.Parts, .int .i64 x12.Kept, .slice A15 x12.Body.length c16]) (S.cell 0 rfl) rfl) agg24 rfl)) fun a F => ?_
              obtain ⟨x37, e38, k_18⟩ := Option.bind_eq_some_iff.1 k_18
              try dsimp only at k_18
              refine d1 20 rfl (by kernel_rfl) (call F Try.func16 (ref16_Same_ok (a0 := x6) (a1 := x12) (H.p2.p4) e38) rfl rfl fun v w hR a F => ?_)
              obtain ⟨rfl, H⟩ := hR
              have HS := H
              refine kg _ HS (fun w S => S) ?_
              refine dq 21 F rfl (by kernel_rfl) NP HS (fun w S => (r_pickT (F.ev (x := .tmp 48) rfl) (F.ev (x := .tmp 51) rfl))) fun a F => ?_
              refine dq 22 F rfl (by kernel_rfl) NP HS (fun w S => (r_mv (F.ev (x := .tmp 52) rfl))) fun a F => ?_
              by_cases c39 : x37 = true
              · rw [if_pos c39] at k_18
                rw [c39] at F
                refine dq 23 F rfl (by kernel_rfl) NP HS (fun w S => (r_mv (F.ev (x := .tmp 7) rfl))) fun a F => ?_
                refine dq 24 F rfl (by kernel_rfl) NP HS (fun w S => (r_mv (F.ev (x := .tmp 9) rfl))) fun a F => ?_
                refine dq 25 F rfl (by kernel_rfl) NP HS (fun w S => (r_beq (F.ev (x := .tmp 54) rfl) (F.ev (x := .tmp 55) rfl) Try.underlying4)) fun a F => ?_
                refine dq 26 F rfl (by kernel_rfl) NP HS (fun w S => (r_pickT (F.ev (x := .tmp 53) rfl) (F.ev (x := .tmp 56) rfl))) fun a F => ?_
                refine dq 27 F rfl (by kernel_rfl) NP HS (fun w S => (r_as (F.ev (x := .tmp 57) rfl))) fun a F => ?_
                refine ddone (by kernel_rfl) ?_
                replace F := F.only [4] (l' := [(4, .bool (x7 == x13))]) rfl
                try dsimp only at k_18
                obtain rfl := Option.some.inj k_18
                exact ⟨_, rfl, F.only [4] rfl, H.px5.px4.px3.px2.px1.px0.fx2.fx1.fx0⟩
              · rw [if_neg c39] at k_18
                rw [Bool.eq_false_iff.2 c39] at F
                refine doff 23 F rfl (by kernel_rfl) NP HS fun a F => ?_
                refine doff 24 F rfl (by kernel_rfl) NP HS fun a F => ?_
                refine doff 25 F rfl (by kernel_rfl) NP HS fun a F => ?_
                refine dq 26 F rfl (by kernel_rfl) NP HS (fun w S => (r_pickF (F.ev (x := .tmp 53) rfl) (F.ev (x := .const (.bool false)) rfl))) fun a F => ?_
                refine dq 27 F rfl (by kernel_rfl) NP HS (fun w S => (r_as (F.ev (x := .tmp 57) rfl))) fun a F => ?_
                refine ddone (by kernel_rfl) ?_
                replace F := F.only [4] (l' := [(4, .bool false)]) rfl
                try dsimp only at k_18
                obtain rfl := Option.some.inj k_18
                exact ⟨_, rfl, F.only [4] rfl, H.px5.px4.px3.px2.px1.px0.fx2.fx1.fx0⟩
            · rw [if_neg c36] at k_18
              rw [decide_eq_false c36] at F
              refine doff 18 F rfl (by kernel_rfl) NP HS fun a F => ?_
              refine doff 19 F rfl (by kernel_rfl) NP HS fun a F => ?_
              refine doff 20 F rfl (by kernel_rfl) NP HS fun a F => ?_
              refine dq 21 F rfl (by kernel_rfl) NP HS (fun w S => (r_pickF (F.ev (x := .tmp 48) rfl) (F.ev (x := .const (.bool false)) rfl))) fun a F => ?_
              refine dq 22 F rfl (by kernel_rfl) NP HS (fun w S => (r_mv (F.ev (x := .tmp 52) rfl))) fun a F => ?_
              refine doff 23 F rfl (by kernel_rfl) NP HS fun a F => ?_
              refine doff 24 F rfl (by kernel_rfl) NP HS fun a F => ?_
              refine doff 25 F rfl (by kernel_rfl) NP HS fun a F => ?_
              refine dq 26 F rfl (by kernel_rfl) NP HS (fun w S => (r_pickF (F.ev (x := .tmp 53) rfl) (F.ev (x := .const (.bool false)) rfl))) fun a F => ?_
              refine dq 27 F rfl (by kernel_rfl) NP HS (fun w S => (r_as (F.ev (x := .tmp 57) rfl))) fun a F => ?_
              refine ddone (by kernel_rfl) ?_
              replace F := F.only [4] (l' := [(4, .bool false)]) rfl
              try dsimp only at k_18
              obtain rfl := Option.some.inj k_18
              exact ⟨_, rfl, F.only [4] rfl, H.px5.px4.px3.px2.px1.px0.fx2.fx1.fx0⟩
          · rw [if_neg c25] at k_18
            rw [Bool.eq_false_iff.2 c25] at F
            refine doff 9 F rfl (by kernel_rfl) NP HS fun a F => ?_
            refine doff 10 F rfl (by kernel_rfl) NP HS fun a F => ?_
            refine doff 11 F rfl (by kernel_rfl) NP HS fun a F => ?_
            refine doff 12 F rfl (by kernel_rfl) NP HS fun a F => ?_
            refine doff 13 F rfl (by kernel_rfl) NP HS fun a F => ?_
            refine doff 14 F rfl (by kernel_rfl) NP HS fun a F => ?_
            refine doff 15 F rfl (by kernel_rfl) NP HS fun a F => ?_
            refine dq 16 F rfl (by kernel_rfl) NP HS (fun w S => (r_pickF (F.ev (x := .tmp 39) rfl) (F.ev (x := .const (.bool false)) rfl))) fun a F => ?_
            refine dq 17 F rfl (by kernel_rfl) NP HS (fun w S => (r_mv (F.ev (x := .tmp 47) rfl))) fun a F => ?_
            refine doff 18 F rfl (by kernel_rfl) NP HS fun a F => ?_
            refine doff 19 F rfl (by kernel_rfl) NP HS fun a F => ?_
            refine doff 20 F rfl (by kernel_rfl) NP HS fun a F => ?_
            refine dq 21 F rfl (by kernel_rfl) NP HS (fun w S => (r_pickF (F.ev (x := .tmp 48) rfl) (F.ev (x := .const (.bool false)) rfl))) fun a F => ?_
            refine dq 22 F rfl (by kernel_rfl) NP HS (fun w S => (r_mv (F.ev (x := .tmp 52) rfl))) fun a F => ?_
            refine doff 23 F rfl (by kernel_rfl) NP HS fun a F => ?_
            refine doff 24 F rfl (by kernel_rfl) NP HS fun a F => ?_
            refine doff 25 F rfl (by kernel_rfl) NP HS fun a F => ?_
            refine dq 26 F rfl (by kernel_rfl) NP HS (fun w S => (r_pickF (F.ev (x := .tmp 53) rfl) (F.ev (x := .const (.bool false)) rfl))) fun a F => ?_
            refine dq 27 F rfl (by kernel_rfl) NP HS (fun w S => (r_as (F.ev (x := .tmp 57) rfl))) fun a F => ?_
            refine ddone (by kernel_rfl) ?_
            replace F := F.only [4] (l' := [(4, .bool false)]) rfl
            try dsimp only at k_18
            obtain rfl := Option.some.inj k_18
            exact ⟨_, rfl, F.only [4] rfl, H.px3.px2.px1.px0.fx2.fx1.fx0⟩
        · rw [if_neg c20] at k_18
          rw [Bool.eq_false_iff.2 c20] at F
          refine doff 2 F rfl (by kernel_rfl) NP HS fun a F => ?_
          refine doff 3 F rfl (by kernel_rfl) NP HS fun a F => ?_
          refine doff 4 F rfl (by kernel_rfl) NP HS fun a F => ?_
          refine doff 5 F rfl (by kernel_rfl) NP HS fun a F => ?_
          refine doff 6 F rfl (by kernel_rfl) NP HS fun a F => ?_
          refine dq 7 F rfl (by kernel_rfl) NP HS (fun w S => (r_pickF (F.ev (x := .tmp 32) rfl) (F.ev (x := .const (.bool false)) rfl))) fun a F => ?_
          refine dq 8 F rfl (by kernel_rfl) NP HS (fun w S => (r_mv (F.ev (x := .tmp 38) rfl))) fun a F => ?_
          refine doff 9 F rfl (by kernel_rfl) NP HS fun a F => ?_
          refine doff 10 F rfl (by kernel_rfl) NP HS fun a F => ?_
          refine doff 11 F rfl (by kernel_rfl) NP HS fun a F => ?_
          refine doff 12 F rfl (by kernel_rfl) NP HS fun a F => ?_
          refine doff 13 F rfl (by kernel_rfl) NP HS fun a F => ?_
          refine doff 14 F rfl (by kernel_rfl) NP HS fun a F => ?_
          refine doff 15 F rfl (by kernel_rfl) NP HS fun a F => ?_
          refine dq 16 F rfl (by kernel_rfl) NP HS (fun w S => (r_pickF (F.ev (x := .tmp 39) rfl) (F.ev (x := .const (.bool false)) rfl))) fun a F => ?_
          refine dq 17 F rfl (by kernel_rfl) NP HS (fun w S => (r_mv (F.ev (x := .tmp 47) rfl))) fun a F => ?_
          refine doff 18 F rfl (by kernel_rfl) NP HS fun a F => ?_
          refine doff 19 F rfl (by kernel_rfl) NP HS fun a F => ?_
          refine doff 20 F rfl (by kernel_rfl) NP HS fun a F => ?_
          refine dq 21 F rfl (by kernel_rfl) NP HS (fun w S => (r_pickF (F.ev (x := .tmp 48) rfl) (F.ev (x := .const (.bool false)) rfl))) fun a F => ?_
          refine dq 22 F rfl (by kernel_rfl) NP HS (fun w S => (r_mv (F.ev (x := .tmp 52) rfl))) fun a F => ?_
          refine doff 23 F rfl (by kernel_rfl) NP HS fun a F => ?_
          refine doff 24 F rfl (by kernel_rfl) NP HS fun a F => ?_
          refine doff 25 F rfl (by kernel_rfl) NP HS fun a F => ?_
          refine dq 26 F rfl (by kernel_rfl) NP HS (fun w S => (r_pickF (F.ev (x := .tmp 53) rfl) (F.ev (x := .const (.bool false)) rfl))) fun a F => ?_
          refine dq 27 F rfl (by kernel_rfl) NP HS (fun w S => (r_as (F.ev (x := .tmp 57) rfl))) fun a F => ?_
          refine ddone (by kernel_rfl) ?_
          replace F := F.only [4] (l' := [(4, .bool false)]) rfl
          try dsimp only at k_18
          obtain rfl := Option.some.inj k_18
          exact ⟨_, rfl, F.only [4] rfl, H.px3.px2.px1.px0.fx2.fx1.fx0⟩
      · rintro a w ⟨x18, rfl, F, H⟩
        try dsimp only at h F H
        refine wp_ret ?_
        try dsimp only at h
        obtain rfl := Option.some.inj h
        exact RET _ _ (ret1 F rfl rfl ⟨_, rfl, rfl, H⟩)
end Go.Proofs.Ytpijdclonniibaa
