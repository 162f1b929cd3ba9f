/- What the functions compute. Printed by wip/gen. -/
import Derived.Test.YtpijdclonniibaaGL
set_option linter.unusedVariables false
set_option linter.unusedSimpArgs false
namespace Go.Proofs.Ytpijdclonniibaa
open Go Go.RowKit
def law16_SectorApart_f (a0 : api_Sector) (a1 : api_Sector) : Option (Bool) :=
  ((law16_head_f).bind fun x3 => (if (a0.Body.length : Int) > 900 then some x3 else (if (a1.Body.length : Int) > 900 then some x3 else ((sector_Put_f a0).bind fun x7 => ((sector_Put_f a1).bind fun x11 => (if (x7.length : Int) = 0 then (((if x3 = true then ((sector_Right_f a0).bind fun x19 => (if (((decide ((x7.length : Int) = 0)) == (!x19))) = true then ((sector_Right_f a1).bind fun x22 => some ((((decide ((x11.length : Int) = 0)) == (!x22))))) else some false)) else some false) : Option (Bool)).bind fun x16 => some x16) else (if (x11.length : Int) = 0 then (((if x3 = true then ((sector_Right_f a0).bind fun x28 => (if (((decide ((x7.length : Int) = 0)) == (!x28))) = true then ((sector_Right_f a1).bind fun x31 => some ((((decide ((x11.length : Int) = 0)) == (!x31))))) else some false)) else some false) : Option (Bool)).bind fun x25 => some x25) else (((if x3 = true then ((ref16_Same_f a0 a1).bind fun x38 => some ((((decide (x7 = x11)) == x38)))) else some false) : Option (Bool)).bind fun x33 => some x33))))))))
set_option maxHeartbeats 4000000 in
set_option maxRecDepth 20000 in
theorem law16_SectorApart_ok {w0 w : World} {ps : List PF} {fs : List SF} {a0 : api_Sector} {A0_4 : Option Addr} {c0_4 : Nat} {a1 : api_Sector} {A1_4 : Option Addr} {c1_4 : Nat} {r0 : Bool} (H : Hp w0 (rd kByte A0_4 c0_4 a0.Body :: rd kByte A1_4 c1_4 a1.Body :: ps) fs w) (h : law16_SectorApart_f a0 a1 = some r0) :
    Calls Try.prog 5 [.agg #[.int .i64 a0.Gen, .int .i64 a0.Place, .int .i64 a0.Parts, .int .i64 a0.Kept, .slice A0_4 a0.Body.length c0_4], .agg #[.int .i64 a1.Gen, .int .i64 a1.Place, .int .i64 a1.Parts, .int .i64 a1.Kept, .slice A1_4 a1.Body.length c1_4]].toArray w fun e w' => ∃ v, e = .returned v ∧ v = .bool r0 ∧ Hp w0 ps fs w' := by
  refine enter [.agg #[.int .i64 a0.Gen, .int .i64 a0.Place, .int .i64 a0.Parts, .int .i64 a0.Kept, .slice A0_4 a0.Body.length c0_4], .agg #[.int .i64 a1.Gen, .int .i64 a1.Place, .int .i64 a1.Parts, .int .i64 a1.Kept, .slice A1_4 a1.Body.length c1_4]] 63 Try.func5 fun Q a NP RET NRM F => ?_
  replace NP : ∀ c a w, ¬ Q (.panic c) a w := fun c a w h => by rcases NP c a w h with h | ⟨w, v, h, _⟩ <;> cases h
  unfold law16_SectorApart_f at h
  refine rg ?_
  refine ls (lbox F H rfl (cs := [.int .i64 a0.Gen, .int .i64 a0.Place, .int .i64 a0.Parts, .int .i64 a0.Kept, .slice A0_4 a0.Body.length c0_4]) rfl fun g1 w a H F => ?_)
  refine ls (lbox F H rfl (cs := [.int .i64 a1.Gen, .int .i64 a1.Place, .int .i64 a1.Parts, .int .i64 a1.Kept, .slice A1_4 a1.Body.length c1_4]) rfl fun g2 w a H F => ?_)
  refine as_ F (v := .bool false) rfl fun a F => ?_
  refine rgend ?_
  refine rg ?_
  obtain ⟨x3, e4, h⟩ := Option.bind_eq_some_iff.1 h
  try dsimp only at h
  refine ls (call F Try.func9 (law16_head_ok (H) e4) rfl rfl fun v w hR a F => ?_)
  obtain ⟨rfl, H⟩ := hR
  refine as_ F rfl fun a F => ?_
  refine rgend ?_
  replace F := F.only [5, 3, 2] (l' := [(5, .bool x3), (3, .pointer (some ⟨g2, 0, none⟩)), (2, .pointer (some ⟨g1, 0, none⟩))]) rfl
  refine wp_seq ?_
  refine rg ?_
  refine ls (qv F (r_fa (off := 4) (F.ev (x := .tmp 2) rfl) fa24_4) fun a F => ?_)
  refine ls (qv F (r_ld (F.ev (x := .tmp 9) rfl) (cel_cell (o := 4) (H.cell 1 rfl) rfl) one22) fun a F => ?_)
  refine ls (qv F (r_len (F.ev (x := .tmp 10) rfl) Try.underlying22) fun a F => ?_)
  refine ls (qv F (r_gt (F.ev (x := .tmp 11) rfl) (F.ev (x := .const (.int .i64 900)) rfl)) fun a F => ?_)
  refine mv F rfl fun a F => ?_
  by_cases c5 : (a0.Body.length : Int) > 900
  · rw [if_pos c5] at h
    rw [decide_eq_true c5] at F
    refine ls (off F fun a F => ?_)
    refine ls (off F fun a F => ?_)
    refine ls (off F fun a F => ?_)
    refine ls (off F fun a F => ?_)
    refine ls (qv F (r_pickT (F.ev (x := .tmp 13) rfl) (F.ev (x := .const (.bool true)) rfl)) fun a F => ?_)
    refine rgend ?_
    replace F := F.only [18, 5, 3, 2] (l' := [(18, .bool true), (5, .bool x3), (3, .pointer (some ⟨g2, 0, none⟩)), (2, .pointer (some ⟨g1, 0, none⟩))]) rfl
    refine wp_cond_true (F.ev rfl) ?_
    refine rg ?_
    refine mv F rfl fun a F => ?_
    refine as_ F rfl fun a F => ?_
    refine rgend ?_
    replace F := F.only [4] (l' := [(4, .bool x3)]) rfl
    refine wp_ret ?_
    try dsimp only at h
    obtain rfl := Option.some.inj h
    exact RET _ _ (ret1 F rfl rfl ⟨_, rfl, rfl, H.px1.px0.fx1.fx0⟩)
  · rw [if_neg c5] at h
    rw [decide_eq_false c5] at F
    refine ls (qv F (r_fa (off := 4) (F.ev (x := .tmp 3) rfl) fa24_4) fun a F => ?_)
    refine ls (qv F (r_ld (F.ev (x := .tmp 14) rfl) (cel_cell (o := 4) (H.cell 0 rfl) rfl) one22) fun a F => ?_)
    refine ls (qv F (r_len (F.ev (x := .tmp 15) rfl) Try.underlying22) fun a F => ?_)
    refine ls (qv F (r_gt (F.ev (x := .tmp 16) rfl) (F.ev (x := .const (.int .i64 900)) rfl)) fun a F => ?_)
    refine ls (qv F (r_pickF (F.ev (x := .tmp 13) rfl) (F.ev (x := .tmp 17) rfl)) fun a F => ?_)
    refine rgend ?_
    replace F := F.only [18, 5, 3, 2] (l' := [(18, .bool (decide ((a1.Body.length : Int) > 900))), (5, .bool x3), (3, .pointer (some ⟨g2, 0, none⟩)), (2, .pointer (some ⟨g1, 0, none⟩))]) rfl
    by_cases c6 : (a1.Body.length : Int) > 900
    · rw [if_pos c6] at h
      rw [decide_eq_true c6] at F
      refine wp_cond_true (F.ev rfl) ?_
      refine rg ?_
      refine mv F rfl fun a F => ?_
      refine as_ F rfl fun a F => ?_
      refine rgend ?_
      replace F := F.only [4] (l' := [(4, .bool x3)]) rfl
      refine wp_ret ?_
      try dsimp only at h
      obtain rfl := Option.some.inj h
      exact RET _ _ (ret1 F rfl rfl ⟨_, rfl, rfl, H.px1.px0.fx1.fx0⟩)
    · rw [if_neg c6] at h
      rw [decide_eq_false c6] at F
      refine wp_cond_false (F.ev rfl) ?_
      refine wp_skip ?_
      refine rg ?_
      refine ls (qv F (r_ldA (F.ev (x := .tmp 2) rfl) (cel_range (o := 0) (n := 5) (vs := [.int .i64 a0.Gen, .int .i64 a0.Place, .int .i64 a0.Parts, .int .i64 a0.Kept, .slice A0_4 a0.Body.length c0_4]) (H.cell 1 rfl) rfl) agg24 rfl) fun a F => ?_)
      obtain ⟨x7, e8, h⟩ := Option.bind_eq_some_iff.1 h
      try dsimp only at h
      refine ls (call F Try.func14 (sector_Put_ok (a0 := a0) (H.p0) e8) rfl rfl fun v w hR a F => ?_)
      obtain ⟨A9, c10, rfl, H⟩ := hR
      refine as_ F rfl fun a F => ?_
      refine rgend ?_
      refine rg ?_
      refine ls (qv F (r_ldA (F.ev (x := .tmp 3) rfl) (cel_range (o := 0) (n := 5) (vs := [.int .i64 a1.Gen, .int .i64 a1.Place, .int .i64 a1.Parts, .int .i64 a1.Kept, .slice A1_4 a1.Body.length c1_4]) (H.cell 0 rfl) rfl) agg24 rfl) fun a F => ?_)
      obtain ⟨x11, e12, h⟩ := Option.bind_eq_some_iff.1 h
      try dsimp only at h
      refine ls (call F Try.func14 (sector_Put_ok (a0 := a1) (H.p2) e12) rfl rfl fun v w hR a F => ?_)
      obtain ⟨A13, c14, rfl, H⟩ := hR
      refine as_ F rfl fun a F => ?_
      refine rgend ?_
      replace F := F.only [7, 6, 5, 3, 2] (l' := [(7, .slice A13 x11.length c14), (6, .slice A9 x7.length c10), (5, .bool x3), (3, .pointer (some ⟨g2, 0, none⟩)), (2, .pointer (some ⟨g1, 0, none⟩))]) rfl
      refine wp_seq ?_
      refine rg ?_
      refine mv F rfl fun a F => ?_
      refine ls (qv F (r_len (F.ev (x := .tmp 24) rfl) Try.underlying22) fun a F => ?_)
      refine ls (qv F (r_eq (F.ev (x := .tmp 25) rfl) (F.ev (x := .const (.int .i64 0)) rfl)) fun a F => ?_)
      refine mv F rfl fun a F => ?_
      by_cases c15 : (x7.length : Int) = 0
      · rw [if_pos c15] at h
        rw [decide_eq_true c15] at F
        refine ls (off F fun a F => ?_)
        refine ls (off F fun a F => ?_)
        refine ls (off F fun a F => ?_)
        refine ls (qv F (r_pickT (F.ev (x := .tmp 27) rfl) (F.ev (x := .const (.bool true)) rfl)) fun a F => ?_)
        refine rgend ?_
        replace F := F.only [31, 7, 6, 5, 3, 2] (l' := [(31, .bool true), (7, .slice A13 x11.length c14), (6, .slice A9 x7.length c10), (5, .bool x3), (3, .pointer (some ⟨g2, 0, none⟩)), (2, .pointer (some ⟨g1, 0, none⟩))]) rfl
        refine wp_cond_true (F.ev rfl) ?_
        refine wp_seq ?_
        obtain ⟨o_16, k_16, h⟩ := Option.bind_eq_some_iff.1 h
        refine cut (fun a w => ∃ (x16 : Bool), x16 = o_16 ∧ Fr 63 [] [(4, .bool x16)] a ∧ Hp w0 ps fs w) ?_ ?_
        · skip
          refine wp_region_lit ?_
          refine mv F rfl fun a F => ?_
          refine mv F rfl fun a F => ?_
          by_cases c18 : x3 = true
          · rw [if_pos c18] at k_16
            rw [c18] at F
            refine mv F rfl fun a F => ?_
            refine ls (qv F (r_len (F.ev (x := .tmp 34) rfl) Try.underlying22) fun a F => ?_)
            refine ls (qv F (r_eq (F.ev (x := .tmp 35) rfl) (F.ev (x := .const (.int .i64 0)) rfl)) fun a F => ?_)
            refine ls (qv F (r_ldA (F.ev (x := .tmp 2) rfl) (cel_range (o := 0) (n := 5) (vs := [.int .i64 a0.Gen, .int .i64 a0.Place, .int .i64 a0.Parts, .int .i64 a0.Kept, .slice A0_4 a0.Body.length c0_4]) (H.cell 1 rfl) rfl) agg24 rfl) fun a F => ?_)
            obtain ⟨x19, e20, k_16⟩ := Option.bind_eq_some_iff.1 k_16
            try dsimp only at k_16
            refine ls (call F Try.func12 (sector_Right_ok (a0 := a0) (H.p2) e20) rfl rfl fun v w hR a F => ?_)
            obtain ⟨rfl, H⟩ := hR
            refine ls (qv F (r_not (F.ev (x := .tmp 38) rfl)) fun a F => ?_)
            refine ls (qv F (r_beq (F.ev (x := .tmp 36) rfl) (F.ev (x := .tmp 39) rfl) Try.underlying4) fun a F => ?_)
            refine ls (qv F (r_pickT (F.ev (x := .tmp 33) rfl) (F.ev (x := .tmp 40) rfl)) fun a F => ?_)
            refine mv F rfl fun a F => ?_
            by_cases c21 : (((decide ((x7.length : Int) = 0)) == (!x19))) = true
            · rw [if_pos c21] at k_16
              rw [c21] at F
              refine mv F rfl fun a F => ?_
              refine ls (qv F (r_len (F.ev (x := .tmp 43) rfl) Try.underlying22) fun a F => ?_)
              refine ls (qv F (r_eq (F.ev (x := .tmp 44) rfl) (F.ev (x := .const (.int .i64 0)) rfl)) fun a F => ?_)
              refine ls (qv F (r_ldA (F.ev (x := .tmp 3) rfl) (cel_range (o := 0) (n := 5) (vs := [.int .i64 a1.Gen, .int .i64 a1.Place, .int .i64 a1.Parts, .int .i64 a1.Kept, .slice A1_4 a1.Body.length c1_4]) (H.cell 0 rfl) rfl) agg24 rfl) fun a F => ?_)
              obtain ⟨x22, e23, k_16⟩ := Option.bind_eq_some_iff.1 k_16
              try dsimp only at k_16
              refine ls (call F Try.func12 (sector_Right_ok (a0 := a1) (H.p3) e23) rfl rfl fun v w hR a F => ?_)
              obtain ⟨rfl, H⟩ := hR
              refine ls (qv F (r_not (F.ev (x := .tmp 47) rfl)) fun a F => ?_)
              refine ls (qv F (r_beq (F.ev (x := .tmp 45) rfl) (F.ev (x := .tmp 48) rfl) Try.underlying4) fun a F => ?_)
              refine ls (qv F (r_pickT (F.ev (x := .tmp 42) rfl) (F.ev (x := .tmp 49) rfl)) fun a F => ?_)
              refine as_ F rfl fun a F => ?_
              refine wpList_nil ?_
              replace F := F.only [4] (l' := [(4, .bool (((decide ((x11.length : Int) = 0)) == (!x22))))]) rfl
              try dsimp only at k_16
              obtain rfl := Option.some.inj k_16
              exact ⟨_, rfl, F.only [4] rfl, H.px3.px2.px1.px0.fx1.fx0⟩
            · rw [if_neg c21] at k_16
              rw [Bool.eq_false_iff.2 c21] at F
              refine ls (off F fun a F => ?_)
              refine ls (off F fun a F => ?_)
              refine ls (off F fun a F => ?_)
              refine ls (off F fun a F => ?_)
              refine ls (off F fun a F => ?_)
              refine ls (off F fun a F => ?_)
              refine ls (off F fun a F => ?_)
              refine ls (qv F (r_pickF (F.ev (x := .tmp 42) rfl) (F.ev (x := .const (.bool false)) rfl)) fun a F => ?_)
              refine as_ F rfl fun a F => ?_
              refine wpList_nil ?_
              replace F := F.only [4] (l' := [(4, .bool false)]) rfl
              try dsimp only at k_16
              obtain rfl := Option.some.inj k_16
              exact ⟨_, rfl, F.only [4] rfl, H.px3.px2.px1.px0.fx1.fx0⟩
          · rw [if_neg c18] at k_16
            rw [Bool.eq_false_iff.2 c18] at F
            refine ls (off F fun a F => ?_)
            refine ls (off F fun a F => ?_)
            refine ls (off F fun a F => ?_)
            refine ls (off F fun a F => ?_)
            refine ls (off F fun a F => ?_)
            refine ls (off F fun a F => ?_)
            refine ls (off F fun a F => ?_)
            refine ls (qv F (r_pickF (F.ev (x := .tmp 33) rfl) (F.ev (x := .const (.bool false)) rfl)) fun a F => ?_)
            refine mv F rfl fun a F => ?_
            refine ls (off F fun a F => ?_)
            refine ls (off F fun a F => ?_)
            refine ls (off F fun a F => ?_)
            refine ls (off F fun a F => ?_)
            refine ls (off F fun a F => ?_)
            refine ls (off F fun a F => ?_)
            refine ls (off F fun a F => ?_)
            refine ls (qv F (r_pickF (F.ev (x := .tmp 42) rfl) (F.ev (x := .const (.bool false)) rfl)) fun a F => ?_)
            refine as_ F rfl fun a F => ?_
            refine wpList_nil ?_
            replace F := F.only [4] (l' := [(4, .bool false)]) rfl
            try dsimp only at k_16
            obtain rfl := Option.some.inj k_16
            exact ⟨_, rfl, F.only [4] rfl, H.px3.px2.px1.px0.fx1.fx0⟩
        · rintro a w ⟨x16, rfl, F, H⟩
          try dsimp only at h F H
          refine wp_ret ?_
          try dsimp only at h
          obtain rfl := Option.some.inj h
          exact RET _ _ (ret1 F rfl rfl ⟨_, rfl, rfl, H⟩)
      · rw [if_neg c15] at h
        rw [decide_eq_false c15] at F
        refine mv F rfl fun a F => ?_
        refine ls (qv F (r_len (F.ev (x := .tmp 28) rfl) Try.underlying22) fun a F => ?_)
        refine ls (qv F (r_eq (F.ev (x := .tmp 29) rfl) (F.ev (x := .const (.int .i64 0)) rfl)) fun a F => ?_)
        refine ls (qv F (r_pickF (F.ev (x := .tmp 27) rfl) (F.ev (x := .tmp 30) rfl)) fun a F => ?_)
        refine rgend ?_
        replace F := F.only [31, 7, 6, 5, 3, 2] (l' := [(31, .bool (decide ((x11.length : Int) = 0))), (7, .slice A13 x11.length c14), (6, .slice A9 x7.length c10), (5, .bool x3), (3, .pointer (some ⟨g2, 0, none⟩)), (2, .pointer (some ⟨g1, 0, none⟩))]) rfl
        by_cases c24 : (x11.length : Int) = 0
        · rw [if_pos c24] at h
          rw [decide_eq_true c24] at F
          refine wp_cond_true (F.ev rfl) ?_
          refine wp_seq ?_
          obtain ⟨o_25, k_25, h⟩ := Option.bind_eq_some_iff.1 h
          refine cut (fun a w => ∃ (x25 : Bool), x25 = o_25 ∧ Fr 63 [] [(4, .bool x25)] a ∧ Hp w0 ps fs w) ?_ ?_
          · skip
            refine wp_region_lit ?_
            refine mv F rfl fun a F => ?_
            refine mv F rfl fun a F => ?_
            by_cases c27 : x3 = true
            · rw [if_pos c27] at k_25
              rw [c27] at F
              refine mv F rfl fun a F => ?_
              refine ls (qv F (r_len (F.ev (x := .tmp 34) rfl) Try.underlying22) fun a F => ?_)
              refine ls (qv F (r_eq (F.ev (x := .tmp 35) rfl) (F.ev (x := .const (.int .i64 0)) rfl)) fun a F => ?_)
              refine ls (qv F (r_ldA (F.ev (x := .tmp 2) rfl) (cel_range (o := 0) (n := 5) (vs := [.int .i64 a0.Gen, .int .i64 a0.Place, .int .i64 a0.Parts, .int .i64 a0.Kept, .slice A0_4 a0.Body.length c0_4]) (H.cell 1 rfl) rfl) agg24 rfl) fun a F => ?_)
              obtain ⟨x28, e29, k_25⟩ := Option.bind_eq_some_iff.1 k_25
              try dsimp only at k_25
              refine ls (call F Try.func12 (sector_Right_ok (a0 := a0) (H.p2) e29) rfl rfl fun v w hR a F => ?_)
              obtain ⟨rfl, H⟩ := hR
              refine ls (qv F (r_not (F.ev (x := .tmp 38) rfl)) fun a F => ?_)
              refine ls (qv F (r_beq (F.ev (x := .tmp 36) rfl) (F.ev (x := .tmp 39) rfl) Try.underlying4) fun a F => ?_)
              refine ls (qv F (r_pickT (F.ev (x := .tmp 33) rfl) (F.ev (x := .tmp 40) rfl)) fun a F => ?_)
              refine mv F rfl fun a F => ?_
              by_cases c30 : (((decide ((x7.length : Int) = 0)) == (!x28))) = true
              · rw [if_pos c30] at k_25
                rw [c30] at F
                refine mv F rfl fun a F => ?_
                refine ls (qv F (r_len (F.ev (x := .tmp 43) rfl) Try.underlying22) fun a F => ?_)
                refine ls (qv F (r_eq (F.ev (x := .tmp 44) rfl) (F.ev (x := .const (.int .i64 0)) rfl)) fun a F => ?_)
                refine ls (qv F (r_ldA (F.ev (x := .tmp 3) rfl) (cel_range (o := 0) (n := 5) (vs := [.int .i64 a1.Gen, .int .i64 a1.Place, .int .i64 a1.Parts, .int .i64 a1.Kept, .slice A1_4 a1.Body.length c1_4]) (H.cell 0 rfl) rfl) agg24 rfl) fun a F => ?_)
                obtain ⟨x31, e32, k_25⟩ := Option.bind_eq_some_iff.1 k_25
                try dsimp only at k_25
                refine ls (call F Try.func12 (sector_Right_ok (a0 := a1) (H.p3) e32) rfl rfl fun v w hR a F => ?_)
                obtain ⟨rfl, H⟩ := hR
                refine ls (qv F (r_not (F.ev (x := .tmp 47) rfl)) fun a F => ?_)
                refine ls (qv F (r_beq (F.ev (x := .tmp 45) rfl) (F.ev (x := .tmp 48) rfl) Try.underlying4) fun a F => ?_)
                refine ls (qv F (r_pickT (F.ev (x := .tmp 42) rfl) (F.ev (x := .tmp 49) rfl)) fun a F => ?_)
                refine as_ F rfl fun a F => ?_
                refine wpList_nil ?_
                replace F := F.only [4] (l' := [(4, .bool (((decide ((x11.length : Int) = 0)) == (!x31))))]) rfl
                try dsimp only at k_25
                obtain rfl := Option.some.inj k_25
                exact ⟨_, rfl, F.only [4] rfl, H.px3.px2.px1.px0.fx1.fx0⟩
              · rw [if_neg c30] at k_25
                rw [Bool.eq_false_iff.2 c30] at F
                refine ls (off F fun a F => ?_)
                refine ls (off F fun a F => ?_)
                refine ls (off F fun a F => ?_)
                refine ls (off F fun a F => ?_)
                refine ls (off F fun a F => ?_)
                refine ls (off F fun a F => ?_)
                refine ls (off F fun a F => ?_)
                refine ls (qv F (r_pickF (F.ev (x := .tmp 42) rfl) (F.ev (x := .const (.bool false)) rfl)) fun a F => ?_)
                refine as_ F rfl fun a F => ?_
                refine wpList_nil ?_
                replace F := F.only [4] (l' := [(4, .bool false)]) rfl
                try dsimp only at k_25
                obtain rfl := Option.some.inj k_25
                exact ⟨_, rfl, F.only [4] rfl, H.px3.px2.px1.px0.fx1.fx0⟩
            · rw [if_neg c27] at k_25
              rw [Bool.eq_false_iff.2 c27] at F
              refine ls (off F fun a F => ?_)
              refine ls (off F fun a F => ?_)
              refine ls (off F fun a F => ?_)
              refine ls (off F fun a F => ?_)
              refine ls (off F fun a F => ?_)
              refine ls (off F fun a F => ?_)
              refine ls (off F fun a F => ?_)
              refine ls (qv F (r_pickF (F.ev (x := .tmp 33) rfl) (F.ev (x := .const (.bool false)) rfl)) fun a F => ?_)
              refine mv F rfl fun a F => ?_
              refine ls (off F fun a F => ?_)
              refine ls (off F fun a F => ?_)
              refine ls (off F fun a F => ?_)
              refine ls (off F fun a F => ?_)
              refine ls (off F fun a F => ?_)
              refine ls (off F fun a F => ?_)
              refine ls (off F fun a F => ?_)
              refine ls (qv F (r_pickF (F.ev (x := .tmp 42) rfl) (F.ev (x := .const (.bool false)) rfl)) fun a F => ?_)
              refine as_ F rfl fun a F => ?_
              refine wpList_nil ?_
              replace F := F.only [4] (l' := [(4, .bool false)]) rfl
              try dsimp only at k_25
              obtain rfl := Option.some.inj k_25
              exact ⟨_, rfl, F.only [4] rfl, H.px3.px2.px1.px0.fx1.fx0⟩
          · rintro a w ⟨x25, rfl, F, H⟩
            try dsimp only at h F H
            refine wp_ret ?_
            try dsimp only at h
            obtain rfl := Option.some.inj h
            exact RET _ _ (ret1 F rfl rfl ⟨_, rfl, rfl, H⟩)
        · rw [if_neg c24] at h
          rw [decide_eq_false c24] at F
          refine wp_cond_false (F.ev rfl) ?_
          refine wp_skip ?_
          refine wp_seq ?_
          obtain ⟨o_33, k_33, h⟩ := Option.bind_eq_some_iff.1 h
          refine cut (fun a w => ∃ (x33 : Bool), x33 = o_33 ∧ Fr 63 [] [(4, .bool x33)] a ∧ Hp w0 ps fs w) ?_ ?_
          · skip
            replace H := H.drew
            have HS := H
            refine dr (fun w => Hp w0 (rd kByte A13 c14 x11 :: rd kByte A9 c10 x7 :: rd kByte A0_4 c0_4 a0.Body :: rd kByte A1_4 c1_4 a1.Body :: ps) (cel g2 [.int .i64 a1.Gen, .int .i64 a1.Place, .int .i64 a1.Parts, .int .i64 a1.Kept, .slice A1_4 a1.Body.length c1_4] 24 :: cel g1 [.int .i64 a0.Gen, .int .i64 a0.Place, .int .i64 a0.Parts, .int .i64 a0.Kept, .slice A0_4 a0.Body.length c0_4] 24 :: fs) w) _ (by kernel_rfl) ?_ (n := 13)
            refine dq 0 F rfl (by kernel_rfl) NP HS (fun w S => (r_mv (F.ev (x := .tmp 5) rfl))) fun a F => ?_
            refine dq 1 F rfl (by kernel_rfl) NP HS (fun w S => (r_mv (F.ev (x := .tmp 51) rfl))) fun a F => ?_
            by_cases c35 : x3 = true
            · rw [if_pos c35] at k_33
              rw [c35] at F
              refine dq 2 F rfl (by kernel_rfl) NP HS (fun w S => (r_mv (F.ev (x := .tmp 6) rfl))) fun a F => ?_
              have hb36 := H.bytes 1 rfl
              refine dq 3 F rfl (by kernel_rfl) NP HS (fun w S => (S.str 1 rfl (F.ev (x := .tmp 53) rfl) Try.underlying22 Try.underlying5 Try.underlying9)) fun a F => ?_
              refine dq 4 F rfl (by kernel_rfl) NP HS (fun w S => (r_mv (F.ev (x := .tmp 7) rfl))) fun a F => ?_
              have hb37 := H.bytes 0 rfl
              refine dq 5 F rfl (by kernel_rfl) NP HS (fun w S => (S.str 0 rfl (F.ev (x := .tmp 55) rfl) Try.underlying22 Try.underlying5 Try.underlying9)) fun a F => ?_
              refine dq 6 F rfl (by kernel_rfl) NP HS (fun w S => (r_seq (F.ev (x := .tmp 54) rfl) (F.ev (x := .tmp 56) rfl) hb36 hb37)) fun a F => ?_
              refine dq 7 F rfl (by kernel_rfl) NP HS (fun w S => (r_ldA (F.ev (x := .tmp 2) rfl) (cel_range (o := 0) (n := 5) (vs := [.int .i64 a0.Gen, .int .i64 a0.Place, .int .i64 a0.Parts, .int .i64 a0.Kept, .slice A0_4 a0.Body.length c0_4]) (S.cell 1 rfl) rfl) agg24 rfl)) fun a F => ?_
              refine dq 8 F rfl (by kernel_rfl) NP HS (fun w S => (r_ldA (F.ev (x := .tmp 3) rfl) (cel_range (o := 0) (n := 5) (vs := [.int .i64 a1.Gen, .int .i64 a1.Place, .int .i64 a1.Parts, .int .i64 a1.Kept, .slice A1_4 a1.Body.length c1_4]) (S.cell 0 rfl) rfl) agg24 rfl)) fun a F => ?_
              obtain ⟨x38, e39, k_33⟩ := Option.bind_eq_some_iff.1 k_33
              try dsimp only at k_33
              refine d1 9 rfl (by kernel_rfl) (call F Try.func16 (ref16_Same_ok (a0 := a0) (a1 := a1) (H.p3.p3) e39) rfl rfl fun v w hR a F => ?_)
              obtain ⟨rfl, H⟩ := hR
              have HS := H
              refine kg _ HS (fun w S => S) ?_
              refine dq 10 F rfl (by kernel_rfl) NP HS (fun w S => (r_beq (F.ev (x := .tmp 57) rfl) (F.ev (x := .tmp 60) rfl) Try.underlying4)) fun a F => ?_
              refine dq 11 F rfl (by kernel_rfl) NP HS (fun w S => (r_pickT (F.ev (x := .tmp 52) rfl) (F.ev (x := .tmp 61) rfl))) fun a F => ?_
              refine dq 12 F rfl (by kernel_rfl) NP HS (fun w S => (r_as (F.ev (x := .tmp 62) rfl))) fun a F => ?_
              refine ddone (by kernel_rfl) ?_
              replace F := F.only [4] (l' := [(4, .bool (((decide (x7 = x11)) == x38)))]) rfl
              try dsimp only at k_33
              obtain rfl := Option.some.inj k_33
              exact ⟨_, rfl, F.only [4] rfl, H.px3.px2.px1.px0.fx1.fx0⟩
            · rw [if_neg c35] at k_33
              rw [Bool.eq_false_iff.2 c35] at F
              refine doff 2 F rfl (by kernel_rfl) NP HS fun a F => ?_
              refine doff 3 F rfl (by kernel_rfl) NP HS fun a F => ?_
              refine doff 4 F rfl (by kernel_rfl) NP HS fun a F => ?_
              refine doff 5 F rfl (by kernel_rfl) NP HS fun a F => ?_
              refine doff 6 F rfl (by kernel_rfl) NP HS fun a F => ?_
              refine doff 7 F rfl (by kernel_rfl) NP HS fun a F => ?_
              refine doff 8 F rfl (by kernel_rfl) NP HS fun a F => ?_
              refine doff 9 F rfl (by kernel_rfl) NP HS fun a F => ?_
              refine doff 10 F rfl (by kernel_rfl) NP HS fun a F => ?_
              refine dq 11 F rfl (by kernel_rfl) NP HS (fun w S => (r_pickF (F.ev (x := .tmp 52) rfl) (F.ev (x := .const (.bool false)) rfl))) fun a F => ?_
              refine dq 12 F rfl (by kernel_rfl) NP HS (fun w S => (r_as (F.ev (x := .tmp 62) rfl))) fun a F => ?_
              refine ddone (by kernel_rfl) ?_
              replace F := F.only [4] (l' := [(4, .bool false)]) rfl
              try dsimp only at k_33
              obtain rfl := Option.some.inj k_33
              exact ⟨_, rfl, F.only [4] rfl, H.px3.px2.px1.px0.fx1.fx0⟩
          · rintro a w ⟨x33, rfl, F, H⟩
            try dsimp only at h F H
            refine wp_ret ?_
            try dsimp only at h
            obtain rfl := Option.some.inj h
            exact RET _ _ (ret1 F rfl rfl ⟨_, rfl, rfl, H⟩)
end Go.Proofs.Ytpijdclonniibaa
