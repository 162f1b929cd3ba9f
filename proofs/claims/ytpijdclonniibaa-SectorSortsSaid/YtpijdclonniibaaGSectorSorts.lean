/- What the functions compute. Printed by wip/gen. -/
import Derived.Test.YtpijdclonniibaaGL
set_option linter.unusedVariables false
set_option linter.unusedSimpArgs false
namespace Go.Proofs.Ytpijdclonniibaa
open Go Go.RowKit
def law16_SectorSorts_f (a0 : api_Sector) (a1 : api_Sector) : Option (Bool) :=
  ((law16_head_f).bind fun x3 => (if (a0.Body.length : Int) > 900 then some x3 else (if (a1.Body.length : Int) > 900 then some x3 else ((sector_Right_f a0).bind fun x7 => (if x7 = true then ((sector_Right_f a1).bind fun x10 => (if x10 = true then ((sector_Put_f a0).bind fun x13 => ((sector_Put_f a1).bind fun x18 => ((sector_Put_f (⟨a0.Gen, a1.Place, a1.Parts, a1.Kept, a1.Body⟩ : api_Sector)).bind fun x24 => (((if x3 = true then (if a0.Gen = a1.Gen then (if a0.Place = a1.Place then some true else some ((((sLt x13 x24) == (decide (a0.Place < a1.Place)))))) else (if (((sLt x13 x18) == (decide (a0.Gen < a1.Gen)))) = true then (if a0.Place = a1.Place then some true else some ((((sLt x13 x24) == (decide (a0.Place < a1.Place)))))) else some false)) else some false) : Option (Bool)).bind fun x29 => some x29)))) else some x3)) else some x3)))))
set_option maxHeartbeats 4000000 in
set_option maxRecDepth 20000 in
theorem law16_SectorSorts_ok {w0 w : World} {ps : List PF} {fs : List SF} {a0 : api_Sector} {A0_4 : Option Addr} {c0_4 : Nat} {a1 : api_Sector} {A1_4 : Option Addr} {c1_4 : Nat} {r0 : Bool} (H : Hp w0 (rd kByte A0_4 c0_4 a0.Body :: rd kByte A1_4 c1_4 a1.Body :: ps) fs w) (h : law16_SectorSorts_f a0 a1 = some r0) :
    Calls Try.prog 8 [.agg #[.int .i64 a0.Gen, .int .i64 a0.Place, .int .i64 a0.Parts, .int .i64 a0.Kept, .slice A0_4 a0.Body.length c0_4], .agg #[.int .i64 a1.Gen, .int .i64 a1.Place, .int .i64 a1.Parts, .int .i64 a1.Kept, .slice A1_4 a1.Body.length c1_4]].toArray w fun e w' => ∃ v, e = .returned v ∧ v = .bool r0 ∧ Hp w0 ps fs w' := by
  refine enter [.agg #[.int .i64 a0.Gen, .int .i64 a0.Place, .int .i64 a0.Parts, .int .i64 a0.Kept, .slice A0_4 a0.Body.length c0_4], .agg #[.int .i64 a1.Gen, .int .i64 a1.Place, .int .i64 a1.Parts, .int .i64 a1.Kept, .slice A1_4 a1.Body.length c1_4]] 82 Try.func8 fun Q a NP RET NRM F => ?_
  replace NP : ∀ c a w, ¬ Q (.panic c) a w := fun c a w h => by rcases NP c a w h with h | ⟨w, v, h, _⟩ <;> cases h
  unfold law16_SectorSorts_f at h
  refine rg ?_
  refine ls (lbox F H rfl (cs := [.int .i64 a0.Gen, .int .i64 a0.Place, .int .i64 a0.Parts, .int .i64 a0.Kept, .slice A0_4 a0.Body.length c0_4]) rfl fun g1 w a H F => ?_)
  refine ls (lbox F H rfl (cs := [.int .i64 a1.Gen, .int .i64 a1.Place, .int .i64 a1.Parts, .int .i64 a1.Kept, .slice A1_4 a1.Body.length c1_4]) rfl fun g2 w a H F => ?_)
  refine as_ F (v := .bool false) rfl fun a F => ?_
  refine rgend ?_
  refine rg ?_
  obtain ⟨x3, e4, h⟩ := Option.bind_eq_some_iff.1 h
  try dsimp only at h
  refine ls (call F Try.func9 (law16_head_ok (H) e4) rfl rfl fun v w hR a F => ?_)
  obtain ⟨rfl, H⟩ := hR
  refine as_ F rfl fun a F => ?_
  refine rgend ?_
  replace F := F.only [5, 3, 2] (l' := [(5, .bool x3), (3, .pointer (some ⟨g2, 0, none⟩)), (2, .pointer (some ⟨g1, 0, none⟩))]) rfl
  refine wp_seq ?_
  refine rg ?_
  refine ls (qv F (r_fa (off := 4) (F.ev (x := .tmp 2) rfl) fa24_4) fun a F => ?_)
  refine ls (qv F (r_ld (F.ev (x := .tmp 11) rfl) (cel_cell (o := 4) (H.cell 1 rfl) rfl) one22) fun a F => ?_)
  refine ls (qv F (r_len (F.ev (x := .tmp 12) rfl) Try.underlying22) fun a F => ?_)
  refine ls (qv F (r_gt (F.ev (x := .tmp 13) rfl) (F.ev (x := .const (.int .i64 900)) rfl)) fun a F => ?_)
  refine mv F rfl fun a F => ?_
  by_cases c5 : (a0.Body.length : Int) > 900
  · rw [if_pos c5] at h
    rw [decide_eq_true c5] at F
    refine ls (off F fun a F => ?_)
    refine ls (off F fun a F => ?_)
    refine ls (off F fun a F => ?_)
    refine ls (off F fun a F => ?_)
    refine ls (qv F (r_pickT (F.ev (x := .tmp 15) rfl) (F.ev (x := .const (.bool true)) rfl)) fun a F => ?_)
    refine mv F rfl fun a F => ?_
    refine ls (off F fun a F => ?_)
    refine ls (off F fun a F => ?_)
    refine ls (off F fun a F => ?_)
    refine ls (qv F (r_pickT (F.ev (x := .tmp 21) rfl) (F.ev (x := .const (.bool true)) rfl)) fun a F => ?_)
    refine mv F rfl fun a F => ?_
    refine ls (off F fun a F => ?_)
    refine ls (off F fun a F => ?_)
    refine ls (off F fun a F => ?_)
    refine ls (qv F (r_pickT (F.ev (x := .tmp 26) rfl) (F.ev (x := .const (.bool true)) rfl)) fun a F => ?_)
    refine rgend ?_
    replace F := F.only [30, 5, 3, 2] (l' := [(30, .bool true), (5, .bool x3), (3, .pointer (some ⟨g2, 0, none⟩)), (2, .pointer (some ⟨g1, 0, none⟩))]) rfl
    refine wp_cond_true (F.ev rfl) ?_
    refine rg ?_
    refine mv F rfl fun a F => ?_
    refine as_ F rfl fun a F => ?_
    refine rgend ?_
    replace F := F.only [4] (l' := [(4, .bool x3)]) rfl
    refine wp_ret ?_
    try dsimp only at h
    obtain rfl := Option.some.inj h
    exact RET _ _ (ret1 F rfl rfl ⟨_, rfl, rfl, H.px1.px0.fx1.fx0⟩)
  · rw [if_neg c5] at h
    rw [decide_eq_false c5] at F
    refine ls (qv F (r_fa (off := 4) (F.ev (x := .tmp 3) rfl) fa24_4) fun a F => ?_)
    refine ls (qv F (r_ld (F.ev (x := .tmp 16) rfl) (cel_cell (o := 4) (H.cell 0 rfl) rfl) one22) fun a F => ?_)
    refine ls (qv F (r_len (F.ev (x := .tmp 17) rfl) Try.underlying22) fun a F => ?_)
    refine ls (qv F (r_gt (F.ev (x := .tmp 18) rfl) (F.ev (x := .const (.int .i64 900)) rfl)) fun a F => ?_)
    refine ls (qv F (r_pickF (F.ev (x := .tmp 15) rfl) (F.ev (x := .tmp 19) rfl)) fun a F => ?_)
    refine mv F rfl fun a F => ?_
    by_cases c6 : (a1.Body.length : Int) > 900
    · rw [if_pos c6] at h
      rw [decide_eq_true c6] at F
      refine ls (off F fun a F => ?_)
      refine ls (off F fun a F => ?_)
      refine ls (off F fun a F => ?_)
      refine ls (qv F (r_pickT (F.ev (x := .tmp 21) rfl) (F.ev (x := .const (.bool true)) rfl)) fun a F => ?_)
      refine mv F rfl fun a F => ?_
      refine ls (off F fun a F => ?_)
      refine ls (off F fun a F => ?_)
      refine ls (off F fun a F => ?_)
      refine ls (qv F (r_pickT (F.ev (x := .tmp 26) rfl) (F.ev (x := .const (.bool true)) rfl)) fun a F => ?_)
      refine rgend ?_
      replace F := F.only [30, 5, 3, 2] (l' := [(30, .bool true), (5, .bool x3), (3, .pointer (some ⟨g2, 0, none⟩)), (2, .pointer (some ⟨g1, 0, none⟩))]) rfl
      refine wp_cond_true (F.ev rfl) ?_
      refine rg ?_
      refine mv F rfl fun a F => ?_
      refine as_ F rfl fun a F => ?_
      refine rgend ?_
      replace F := F.only [4] (l' := [(4, .bool x3)]) rfl
      refine wp_ret ?_
      try dsimp only at h
      obtain rfl := Option.some.inj h
      exact RET _ _ (ret1 F rfl rfl ⟨_, rfl, rfl, H.px1.px0.fx1.fx0⟩)
    · rw [if_neg c6] at h
      rw [decide_eq_false c6] at F
      refine ls (qv F (r_ldA (F.ev (x := .tmp 2) rfl) (cel_range (o := 0) (n := 5) (vs := [.int .i64 a0.Gen, .int .i64 a0.Place, .int .i64 a0.Parts, .int .i64 a0.Kept, .slice A0_4 a0.Body.length c0_4]) (H.cell 1 rfl) rfl) agg24 rfl) fun a F => ?_)
      obtain ⟨x7, e8, h⟩ := Option.bind_eq_some_iff.1 h
      try dsimp only at h
      refine ls (call F Try.func12 (sector_Right_ok (a0 := a0) (H.p0) e8) rfl rfl fun v w hR a F => ?_)
      obtain ⟨rfl, H⟩ := hR
      refine ls (qv F (r_not (F.ev (x := .tmp 23) rfl)) fun a F => ?_)
      refine ls (qv F (r_pickF (F.ev (x := .tmp 21) rfl) (F.ev (x := .tmp 24) rfl)) fun a F => ?_)
      refine mv F rfl fun a F => ?_
      by_cases c9 : x7 = true
      · rw [if_pos c9] at h
        rw [c9] at F
        refine ls (qv F (r_ldA (F.ev (x := .tmp 3) rfl) (cel_range (o := 0) (n := 5) (vs := [.int .i64 a1.Gen, .int .i64 a1.Place, .int .i64 a1.Parts, .int .i64 a1.Kept, .slice A1_4 a1.Body.length c1_4]) (H.cell 0 rfl) rfl) agg24 rfl) fun a F => ?_)
        obtain ⟨x10, e11, h⟩ := Option.bind_eq_some_iff.1 h
        try dsimp only at h
        refine ls (call F Try.func12 (sector_Right_ok (a0 := a1) (H.p1) e11) rfl rfl fun v w hR a F => ?_)
        obtain ⟨rfl, H⟩ := hR
        refine ls (qv F (r_not (F.ev (x := .tmp 28) rfl)) fun a F => ?_)
        refine ls (qv F (r_pickF (F.ev (x := .tmp 26) rfl) (F.ev (x := .tmp 29) rfl)) fun a F => ?_)
        refine rgend ?_
        replace F := F.only [30, 5, 3, 2] (l' := [(30, .bool (!x10)), (5, .bool x3), (3, .pointer (some ⟨g2, 0, none⟩)), (2, .pointer (some ⟨g1, 0, none⟩))]) rfl
        by_cases c12 : x10 = true
        · rw [if_pos c12] at h
          rw [c12] at F
          refine wp_cond_false (F.ev rfl) ?_
          refine wp_skip ?_
          refine rg ?_
          refine ls (qv F (r_ldA (F.ev (x := .tmp 2) rfl) (cel_range (o := 0) (n := 5) (vs := [.int .i64 a0.Gen, .int .i64 a0.Place, .int .i64 a0.Parts, .int .i64 a0.Kept, .slice A0_4 a0.Body.length c0_4]) (H.cell 1 rfl) rfl) agg24 rfl) fun a F => ?_)
          obtain ⟨x13, e14, h⟩ := Option.bind_eq_some_iff.1 h
          try dsimp only at h
          refine ls (call F Try.func14 (sector_Put_ok (a0 := a0) (H.p0) e14) rfl rfl fun v w hR a F => ?_)
          obtain ⟨A15, c16, rfl, H⟩ := hR
          have hb17 := H.bytes 0 rfl
          refine ls (qv F (H.str 0 rfl (F.ev (x := .tmp 33) rfl) Try.underlying22 Try.underlying5 Try.underlying9) fun a F => ?_)
          refine as_ F rfl fun a F => ?_
          refine rgend ?_
          replace F := F.only [6, 5, 3, 2] (l' := [(6, .string (strOf x13)), (5, .bool x3), (3, .pointer (some ⟨g2, 0, none⟩)), (2, .pointer (some ⟨g1, 0, none⟩))]) rfl
          refine rg ?_
          refine ls (qv F (r_ldA (F.ev (x := .tmp 3) rfl) (cel_range (o := 0) (n := 5) (vs := [.int .i64 a1.Gen, .int .i64 a1.Place, .int .i64 a1.Parts, .int .i64 a1.Kept, .slice A1_4 a1.Body.length c1_4]) (H.cell 0 rfl) rfl) agg24 rfl) fun a F => ?_)
          obtain ⟨x18, e19, h⟩ := Option.bind_eq_some_iff.1 h
          try dsimp only at h
          refine ls (call F Try.func14 (sector_Put_ok (a0 := a1) (H.p2) e19) rfl rfl fun v w hR a F => ?_)
          obtain ⟨A20, c21, rfl, H⟩ := hR
          have hb22 := H.bytes 0 rfl
          refine ls (qv F (H.str 0 rfl (F.ev (x := .tmp 36) rfl) Try.underlying22 Try.underlying5 Try.underlying9) fun a F => ?_)
          refine as_ F rfl fun a F => ?_
          refine rgend ?_
          refine rg ?_
          refine ls (qv F (r_ldA (F.ev (x := .tmp 3) rfl) (cel_range (o := 0) (n := 5) (vs := [.int .i64 a1.Gen, .int .i64 a1.Place, .int .i64 a1.Parts, .int .i64 a1.Kept, .slice A1_4 a1.Body.length c1_4]) (H.cell 0 rfl) rfl) agg24 rfl) fun a F => ?_)
          refine ls (lal F H ti24 (cs := [.int .i64 0, .int .i64 0, .int .i64 0, .int .i64 0, .slice none 0 0]) rfl fun g23 w a H F => ?_)
          obtain ⟨_, hr, H⟩ := Hp.store (t := 24) (o := 0) (n := 5) (vs := [.int .i64 a1.Gen, .int .i64 a1.Place, .int .i64 a1.Parts, .int .i64 a1.Kept, .slice A1_4 a1.Body.length c1_4]) (cs' := [.int .i64 a1.Gen, .int .i64 a1.Place, .int .i64 a1.Parts, .int .i64 a1.Kept, .slice A1_4 a1.Body.length c1_4]) (H) (F.ev (x := .tmp 8) rfl) (F.ev (x := .tmp 38) rfl) rfl sz24 rfl (Nat.le_of_ble_eq_true rfl) rfl rfl
          refine ls (qn F (.inl rfl) (hr _ _ _ _) fun a F => ?_)
          refine rgend ?_
          replace F := F.only [8, 7, 6, 5, 3, 2] (l' := [(8, .pointer (some ⟨g23, 0, none⟩)), (7, .string (strOf x18)), (6, .string (strOf x13)), (5, .bool x3), (3, .pointer (some ⟨g2, 0, none⟩)), (2, .pointer (some ⟨g1, 0, none⟩))]) rfl
          refine rg ?_
          refine ls (qv F (r_fa (off := 0) (F.ev (x := .tmp 2) rfl) fa24_0) fun a F => ?_)
          refine ls (qv F (r_ld (F.ev (x := .tmp 39) rfl) (cel_cell (o := 0) (H.cell 2 rfl) rfl) one2) fun a F => ?_)
          refine ls (qv F (r_fa (off := 0) (F.ev (x := .tmp 8) rfl) fa24_0) fun a F => ?_)
          obtain ⟨_, hr, H⟩ := Hp.store (t := 2) (o := 0) (n := 1) (vs := [.int .i64 a0.Gen]) (cs' := [.int .i64 a0.Gen, .int .i64 a1.Place, .int .i64 a1.Parts, .int .i64 a1.Kept, .slice A1_4 a1.Body.length c1_4]) (H) (F.ev (x := .tmp 41) rfl) (F.ev (x := .tmp 40) rfl) rfl sz2 rfl (Nat.le_of_ble_eq_true rfl) rfl rfl
          refine ls (qn F (.inl rfl) (hr _ _ _ _) fun a F => ?_)
          refine rgend ?_
          refine rg ?_
          refine ls (qv F (r_ldA (F.ev (x := .tmp 8) rfl) (cel_range (o := 0) (n := 5) (vs := [.int .i64 a0.Gen, .int .i64 a1.Place, .int .i64 a1.Parts, .int .i64 a1.Kept, .slice A1_4 a1.Body.length c1_4]) (H.cell 0 rfl) rfl) agg24 rfl) fun a F => ?_)
          obtain ⟨x24, e25, h⟩ := Option.bind_eq_some_iff.1 h
          try dsimp only at h
          refine ls (call F Try.func14 (sector_Put_ok (a0 := (⟨a0.Gen, a1.Place, a1.Parts, a1.Kept, a1.Body⟩ : api_Sector)) (H.p3) e25) rfl rfl fun v w hR a F => ?_)
          obtain ⟨A26, c27, rfl, H⟩ := hR
          have hb28 := H.bytes 0 rfl
          refine ls (qv F (H.str 0 rfl (F.ev (x := .tmp 43) rfl) Try.underlying22 Try.underlying5 Try.underlying9) fun a F => ?_)
          refine as_ F rfl fun a F => ?_
          refine rgend ?_
          replace F := F.only [9, 7, 6, 5, 3, 2] (l' := [(9, .string (strOf x24)), (7, .string (strOf x18)), (6, .string (strOf x13)), (5, .bool x3), (3, .pointer (some ⟨g2, 0, none⟩)), (2, .pointer (some ⟨g1, 0, none⟩))]) rfl
          refine wp_seq ?_
          obtain ⟨o_29, k_29, h⟩ := Option.bind_eq_some_iff.1 h
          refine cut (fun a w => ∃ (x29 : Bool), x29 = o_29 ∧ Fr 82 [] [(4, .bool x29)] a ∧ Hp w0 ps fs w) ?_ ?_
          · skip
            refine wp_region_lit ?_
            refine mv F rfl fun a F => ?_
            refine mv F rfl fun a F => ?_
            by_cases c31 : x3 = true
            · rw [if_pos c31] at k_29
              rw [c31] at F
              refine ls (qv F (r_fa (off := 0) (F.ev (x := .tmp 2) rfl) fa24_0) fun a F => ?_)
              refine ls (qv F (r_ld (F.ev (x := .tmp 47) rfl) (cel_cell (o := 0) (H.cell 2 rfl) rfl) one2) fun a F => ?_)
              refine ls (qv F (r_fa (off := 0) (F.ev (x := .tmp 3) rfl) fa24_0) fun a F => ?_)
              refine ls (qv F (r_ld (F.ev (x := .tmp 49) rfl) (cel_cell (o := 0) (H.cell 1 rfl) rfl) one2) fun a F => ?_)
              refine ls (qv F (r_eq (F.ev (x := .tmp 48) rfl) (F.ev (x := .tmp 50) rfl)) fun a F => ?_)
              refine mv F rfl fun a F => ?_
              by_cases c32 : a0.Gen = a1.Gen
              · rw [if_pos c32] at k_29
                rw [decide_eq_true c32] at F
                refine ls (off F fun a F => ?_)
                refine ls (off F fun a F => ?_)
                refine ls (off F fun a F => ?_)
                refine ls (off F fun a F => ?_)
                refine ls (off F fun a F => ?_)
                refine ls (off F fun a F => ?_)
                refine ls (off F fun a F => ?_)
                refine ls (off F fun a F => ?_)
                refine ls (off F fun a F => ?_)
                refine ls (qv F (r_pickT (F.ev (x := .tmp 52) rfl) (F.ev (x := .const (.bool true)) rfl)) fun a F => ?_)
                refine ls (qv F (r_pickT (F.ev (x := .tmp 46) rfl) (F.ev (x := .tmp 62) rfl)) fun a F => ?_)
                refine mv F rfl fun a F => ?_
                refine ls (qv F (r_fa (off := 1) (F.ev (x := .tmp 2) rfl) fa24_1) fun a F => ?_)
                refine ls (qv F (r_ld (F.ev (x := .tmp 65) rfl) (cel_cell (o := 1) (H.cell 2 rfl) rfl) one3) fun a F => ?_)
                refine ls (qv F (r_fa (off := 1) (F.ev (x := .tmp 3) rfl) fa24_1) fun a F => ?_)
                refine ls (qv F (r_ld (F.ev (x := .tmp 67) rfl) (cel_cell (o := 1) (H.cell 1 rfl) rfl) one3) fun a F => ?_)
                refine ls (qv F (r_eq (F.ev (x := .tmp 66) rfl) (F.ev (x := .tmp 68) rfl)) fun a F => ?_)
                refine mv F rfl fun a F => ?_
                by_cases c33 : a0.Place = a1.Place
                · rw [if_pos c33] at k_29
                  rw [decide_eq_true c33] at F
                  refine ls (off F fun a F => ?_)
                  refine ls (off F fun a F => ?_)
                  refine ls (off F fun a F => ?_)
                  refine ls (off F fun a F => ?_)
                  refine ls (off F fun a F => ?_)
                  refine ls (off F fun a F => ?_)
                  refine ls (off F fun a F => ?_)
                  refine ls (off F fun a F => ?_)
                  refine ls (off F fun a F => ?_)
                  refine ls (qv F (r_pickT (F.ev (x := .tmp 70) rfl) (F.ev (x := .const (.bool true)) rfl)) fun a F => ?_)
                  refine ls (qv F (r_pickT (F.ev (x := .tmp 64) rfl) (F.ev (x := .tmp 80) rfl)) fun a F => ?_)
                  refine as_ F rfl fun a F => ?_
                  refine wpList_nil ?_
                  replace F := F.only [4] (l' := [(4, .bool true)]) rfl
                  try dsimp only at k_29
                  obtain rfl := Option.some.inj k_29
                  exact ⟨_, rfl, F.only [4] rfl, H.px4.px3.px2.px1.px0.fx2.fx1.fx0⟩
                · rw [if_neg c33] at k_29
                  rw [decide_eq_false c33] at F
                  refine mv F rfl fun a F => ?_
                  refine mv F rfl fun a F => ?_
                  refine ls (qv F (r_slt (F.ev (x := .tmp 71) rfl) (F.ev (x := .tmp 72) rfl)) fun a F => ?_)
                  refine ls (qv F (r_fa (off := 1) (F.ev (x := .tmp 2) rfl) fa24_1) fun a F => ?_)
                  refine ls (qv F (r_ld (F.ev (x := .tmp 74) rfl) (cel_cell (o := 1) (H.cell 2 rfl) rfl) one3) fun a F => ?_)
                  refine ls (qv F (r_fa (off := 1) (F.ev (x := .tmp 3) rfl) fa24_1) fun a F => ?_)
                  refine ls (qv F (r_ld (F.ev (x := .tmp 76) rfl) (cel_cell (o := 1) (H.cell 1 rfl) rfl) one3) fun a F => ?_)
                  refine ls (qv F (r_lt (F.ev (x := .tmp 75) rfl) (F.ev (x := .tmp 77) rfl)) fun a F => ?_)
                  refine ls (qv F (r_beq (F.ev (x := .tmp 73) rfl) (F.ev (x := .tmp 78) rfl) Try.underlying4) fun a F => ?_)
                  refine ls (qv F (r_pickF (F.ev (x := .tmp 70) rfl) (F.ev (x := .tmp 79) rfl)) fun a F => ?_)
                  refine ls (qv F (r_pickT (F.ev (x := .tmp 64) rfl) (F.ev (x := .tmp 80) rfl)) fun a F => ?_)
                  refine as_ F rfl fun a F => ?_
                  refine wpList_nil ?_
                  replace F := F.only [4] (l' := [(4, .bool (((sLt x13 x24) == (decide (a0.Place < a1.Place)))))]) rfl
                  try dsimp only at k_29
                  obtain rfl := Option.some.inj k_29
                  exact ⟨_, rfl, F.only [4] rfl, H.px4.px3.px2.px1.px0.fx2.fx1.fx0⟩
              · rw [if_neg c32] at k_29
                rw [decide_eq_false c32] at F
                refine mv F rfl fun a F => ?_
                refine mv F rfl fun a F => ?_
                refine ls (qv F (r_slt (F.ev (x := .tmp 53) rfl) (F.ev (x := .tmp 54) rfl)) fun a F => ?_)
                refine ls (qv F (r_fa (off := 0) (F.ev (x := .tmp 2) rfl) fa24_0) fun a F => ?_)
                refine ls (qv F (r_ld (F.ev (x := .tmp 56) rfl) (cel_cell (o := 0) (H.cell 2 rfl) rfl) one2) fun a F => ?_)
                refine ls (qv F (r_fa (off := 0) (F.ev (x := .tmp 3) rfl) fa24_0) fun a F => ?_)
                refine ls (qv F (r_ld (F.ev (x := .tmp 58) rfl) (cel_cell (o := 0) (H.cell 1 rfl) rfl) one2) fun a F => ?_)
                refine ls (qv F (r_lt (F.ev (x := .tmp 57) rfl) (F.ev (x := .tmp 59) rfl)) fun a F => ?_)
                refine ls (qv F (r_beq (F.ev (x := .tmp 55) rfl) (F.ev (x := .tmp 60) rfl) Try.underlying4) fun a F => ?_)
                refine ls (qv F (r_pickF (F.ev (x := .tmp 52) rfl) (F.ev (x := .tmp 61) rfl)) fun a F => ?_)
                refine ls (qv F (r_pickT (F.ev (x := .tmp 46) rfl) (F.ev (x := .tmp 62) rfl)) fun a F => ?_)
                refine mv F rfl fun a F => ?_
                by_cases c34 : (((sLt x13 x18) == (decide (a0.Gen < a1.Gen)))) = true
                · rw [if_pos c34] at k_29
                  rw [c34] at F
                  refine ls (qv F (r_fa (off := 1) (F.ev (x := .tmp 2) rfl) fa24_1) fun a F => ?_)
                  refine ls (qv F (r_ld (F.ev (x := .tmp 65) rfl) (cel_cell (o := 1) (H.cell 2 rfl) rfl) one3) fun a F => ?_)
                  refine ls (qv F (r_fa (off := 1) (F.ev (x := .tmp 3) rfl) fa24_1) fun a F => ?_)
                  refine ls (qv F (r_ld (F.ev (x := .tmp 67) rfl) (cel_cell (o := 1) (H.cell 1 rfl) rfl) one3) fun a F => ?_)
                  refine ls (qv F (r_eq (F.ev (x := .tmp 66) rfl) (F.ev (x := .tmp 68) rfl)) fun a F => ?_)
                  refine mv F rfl fun a F => ?_
                  by_cases c35 : a0.Place = a1.Place
                  · rw [if_pos c35] at k_29
                    rw [decide_eq_true c35] at F
                    refine ls (off F fun a F => ?_)
                    refine ls (off F fun a F => ?_)
                    refine ls (off F fun a F => ?_)
                    refine ls (off F fun a F => ?_)
                    refine ls (off F fun a F => ?_)
                    refine ls (off F fun a F => ?_)
                    refine ls (off F fun a F => ?_)
                    refine ls (off F fun a F => ?_)
                    refine ls (off F fun a F => ?_)
                    refine ls (qv F (r_pickT (F.ev (x := .tmp 70) rfl) (F.ev (x := .const (.bool true)) rfl)) fun a F => ?_)
                    refine ls (qv F (r_pickT (F.ev (x := .tmp 64) rfl) (F.ev (x := .tmp 80) rfl)) fun a F => ?_)
                    refine as_ F rfl fun a F => ?_
                    refine wpList_nil ?_
                    replace F := F.only [4] (l' := [(4, .bool true)]) rfl
                    try dsimp only at k_29
                    obtain rfl := Option.some.inj k_29
                    exact ⟨_, rfl, F.only [4] rfl, H.px4.px3.px2.px1.px0.fx2.fx1.fx0⟩
                  · rw [if_neg c35] at k_29
                    rw [decide_eq_false c35] at F
                    refine mv F rfl fun a F => ?_
                    refine mv F rfl fun a F => ?_
                    refine ls (qv F (r_slt (F.ev (x := .tmp 71) rfl) (F.ev (x := .tmp 72) rfl)) fun a F => ?_)
                    refine ls (qv F (r_fa (off := 1) (F.ev (x := .tmp 2) rfl) fa24_1) fun a F => ?_)
                    refine ls (qv F (r_ld (F.ev (x := .tmp 74) rfl) (cel_cell (o := 1) (H.cell 2 rfl) rfl) one3) fun a F => ?_)
                    refine ls (qv F (r_fa (off := 1) (F.ev (x := .tmp 3) rfl) fa24_1) fun a F => ?_)
                    refine ls (qv F (r_ld (F.ev (x := .tmp 76) rfl) (cel_cell (o := 1) (H.cell 1 rfl) rfl) one3) fun a F => ?_)
                    refine ls (qv F (r_lt (F.ev (x := .tmp 75) rfl) (F.ev (x := .tmp 77) rfl)) fun a F => ?_)
                    refine ls (qv F (r_beq (F.ev (x := .tmp 73) rfl) (F.ev (x := .tmp 78) rfl) Try.underlying4) fun a F => ?_)
                    refine ls (qv F (r_pickF (F.ev (x := .tmp 70) rfl) (F.ev (x := .tmp 79) rfl)) fun a F => ?_)
                    refine ls (qv F (r_pickT (F.ev (x := .tmp 64) rfl) (F.ev (x := .tmp 80) rfl)) fun a F => ?_)
                    refine as_ F rfl fun a F => ?_
                    refine wpList_nil ?_
                    replace F := F.only [4] (l' := [(4, .bool (((sLt x13 x24) == (decide (a0.Place < a1.Place)))))]) rfl
                    try dsimp only at k_29
                    obtain rfl := Option.some.inj k_29
                    exact ⟨_, rfl, F.only [4] rfl, H.px4.px3.px2.px1.px0.fx2.fx1.fx0⟩
                · rw [if_neg c34] at k_29
                  rw [Bool.eq_false_iff.2 c34] at F
                  refine ls (off F fun a F => ?_)
                  refine ls (off F fun a F => ?_)
                  refine ls (off F fun a F => ?_)
                  refine ls (off F fun a F => ?_)
                  refine ls (off F fun a F => ?_)
                  refine ls (off F fun a F => ?_)
                  refine ls (off F fun a F => ?_)
                  refine ls (off F fun a F => ?_)
                  refine ls (off F fun a F => ?_)
                  refine ls (off F fun a F => ?_)
                  refine ls (off F fun a F => ?_)
                  refine ls (off F fun a F => ?_)
                  refine ls (off F fun a F => ?_)
                  refine ls (off F fun a F => ?_)
                  refine ls (off F fun a F => ?_)
                  refine ls (off F fun a F => ?_)
                  refine ls (qv F (r_pickF (F.ev (x := .tmp 64) rfl) (F.ev (x := .const (.bool false)) rfl)) fun a F => ?_)
                  refine as_ F rfl fun a F => ?_
                  refine wpList_nil ?_
                  replace F := F.only [4] (l' := [(4, .bool false)]) rfl
                  try dsimp only at k_29
                  obtain rfl := Option.some.inj k_29
                  exact ⟨_, rfl, F.only [4] rfl, H.px4.px3.px2.px1.px0.fx2.fx1.fx0⟩
            · rw [if_neg c31] at k_29
              rw [Bool.eq_false_iff.2 c31] at F
              refine ls (off F fun a F => ?_)
              refine ls (off F fun a F => ?_)
              refine ls (off F fun a F => ?_)
              refine ls (off F fun a F => ?_)
              refine ls (off F fun a F => ?_)
              refine ls (off F fun a F => ?_)
              refine ls (off F fun a F => ?_)
              refine ls (off F fun a F => ?_)
              refine ls (off F fun a F => ?_)
              refine ls (off F fun a F => ?_)
              refine ls (off F fun a F => ?_)
              refine ls (off F fun a F => ?_)
              refine ls (off F fun a F => ?_)
              refine ls (off F fun a F => ?_)
              refine ls (off F fun a F => ?_)
              refine ls (off F fun a F => ?_)
              refine ls (qv F (r_pickF (F.ev (x := .tmp 46) rfl) (F.ev (x := .const (.bool false)) rfl)) fun a F => ?_)
              refine mv F rfl fun a F => ?_
              refine ls (off F fun a F => ?_)
              refine ls (off F fun a F => ?_)
              refine ls (off F fun a F => ?_)
              refine ls (off F fun a F => ?_)
              refine ls (off F fun a F => ?_)
              refine ls (off F fun a F => ?_)
              refine ls (off F fun a F => ?_)
              refine ls (off F fun a F => ?_)
              refine ls (off F fun a F => ?_)
              refine ls (off F fun a F => ?_)
              refine ls (off F fun a F => ?_)
              refine ls (off F fun a F => ?_)
              refine ls (off F fun a F => ?_)
              refine ls (off F fun a F => ?_)
              refine ls (off F fun a F => ?_)
              refine ls (off F fun a F => ?_)
              refine ls (qv F (r_pickF (F.ev (x := .tmp 64) rfl) (F.ev (x := .const (.bool false)) rfl)) fun a F => ?_)
              refine as_ F rfl fun a F => ?_
              refine wpList_nil ?_
              replace F := F.only [4] (l' := [(4, .bool false)]) rfl
              try dsimp only at k_29
              obtain rfl := Option.some.inj k_29
              exact ⟨_, rfl, F.only [4] rfl, H.px4.px3.px2.px1.px0.fx2.fx1.fx0⟩
          · rintro a w ⟨x29, rfl, F, H⟩
            try dsimp only at h F H
            refine wp_ret ?_
            try dsimp only at h
            obtain rfl := Option.some.inj h
            exact RET _ _ (ret1 F rfl rfl ⟨_, rfl, rfl, H⟩)
        · rw [if_neg c12] at h
          rw [Bool.eq_false_iff.2 c12] at F
          refine wp_cond_true (F.ev rfl) ?_
          refine rg ?_
          refine mv F rfl fun a F => ?_
          refine as_ F rfl fun a F => ?_
          refine rgend ?_
          replace F := F.only [4] (l' := [(4, .bool x3)]) rfl
          refine wp_ret ?_
          try dsimp only at h
          obtain rfl := Option.some.inj h
          exact RET _ _ (ret1 F rfl rfl ⟨_, rfl, rfl, H.px1.px0.fx1.fx0⟩)
      · rw [if_neg c9] at h
        rw [Bool.eq_false_iff.2 c9] at F
        refine ls (off F fun a F => ?_)
        refine ls (off F fun a F => ?_)
        refine ls (off F fun a F => ?_)
        refine ls (qv F (r_pickT (F.ev (x := .tmp 26) rfl) (F.ev (x := .const (.bool true)) rfl)) fun a F => ?_)
        refine rgend ?_
        replace F := F.only [30, 5, 3, 2] (l' := [(30, .bool true), (5, .bool x3), (3, .pointer (some ⟨g2, 0, none⟩)), (2, .pointer (some ⟨g1, 0, none⟩))]) rfl
        refine wp_cond_true (F.ev rfl) ?_
        refine rg ?_
        refine mv F rfl fun a F => ?_
        refine as_ F rfl fun a F => ?_
        refine rgend ?_
        replace F := F.only [4] (l' := [(4, .bool x3)]) rfl
        refine wp_ret ?_
        try dsimp only at h
        obtain rfl := Option.some.inj h
        exact RET _ _ (ret1 F rfl rfl ⟨_, rfl, rfl, H.px1.px0.fx1.fx0⟩)
end Go.Proofs.Ytpijdclonniibaa
