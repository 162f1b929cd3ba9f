/- What the functions compute. Printed by wip/gen. -/
import Derived.Test.YtpijdclonniibaaGL
set_option linter.unusedVariables false
set_option linter.unusedSimpArgs false
namespace Go.Proofs.Ytpijdclonniibaa
open Go Go.RowKit
def law16_SectorBack_f (a0 : api_Sector) (a1 : List Int) : Option (Bool) :=
  ((law16_head_f).bind fun x2 => (if (a0.Body.length : Int) > 900 then some x2 else (if (a1.length : Int) > 900 then some x2 else ((sector_Put_f a0).bind fun x6 => ((sector_Get_f x6).bind fun (x10, x11) => ((((sector_Right_f a0).bind fun x18 => (if (x11 != x18) = true then some true else (if x11 = true then ((ref16_Same_f x10 a0).bind fun x22 => (if x22 = true then (if (x6.length : Int) ≠ 64 then some true else some false) else some true)) else some ((decide ((x6.length : Int) ≠ 0)))))) : Option (Bool)).bind fun x16 => (if x16 = true then some false else ((sector_Get_f a1).bind fun (x27, x28) => (if x28 = true then (((if x2 = true then ((sector_Right_f x27).bind fun x37 => (if x37 = true then ((sector_Put_f x27).bind fun x41 => some ((decide (x41 = a1)))) else some false)) else some false) : Option (Bool)).bind fun x34 => some x34) else (((if x2 = true then ((ref16_Same_f x27 (⟨0, 0, 0, 0, []⟩ : api_Sector)).bind fun x49 => some x49) else some false) : Option (Bool)).bind fun x46 => some x46))))))))))
set_option maxHeartbeats 4000000 in
set_option maxRecDepth 20000 in
theorem law16_SectorBack_ok {w0 w : World} {ps : List PF} {fs : List SF} {a0 : api_Sector} {A0_4 : Option Addr} {c0_4 : Nat} {a1 : List Int} {A1_ : Option Addr} {c1_ : Nat} {r0 : Bool} (H : Hp w0 (rd kByte A0_4 c0_4 a0.Body :: rd kByte A1_ c1_ a1 :: ps) fs w) (h : law16_SectorBack_f a0 a1 = some r0) :
    Calls Try.prog 4 [.agg #[.int .i64 a0.Gen, .int .i64 a0.Place, .int .i64 a0.Parts, .int .i64 a0.Kept, .slice A0_4 a0.Body.length c0_4], .slice A1_ a1.length c1_].toArray w fun e w' => ∃ v, e = .returned v ∧ v = .bool r0 ∧ Hp w0 ps fs w' := by
  refine enter [.agg #[.int .i64 a0.Gen, .int .i64 a0.Place, .int .i64 a0.Parts, .int .i64 a0.Kept, .slice A0_4 a0.Body.length c0_4], .slice A1_ a1.length c1_] 82 Try.func4 fun Q a NP RET NRM F => ?_
  replace NP : ∀ c a w, ¬ Q (.panic c) a w := fun c a w h => by rcases NP c a w h with h | ⟨w, v, h, _⟩ <;> cases h
  unfold law16_SectorBack_f at h
  refine rg ?_
  refine ls (lbox F H rfl (cs := [.int .i64 a0.Gen, .int .i64 a0.Place, .int .i64 a0.Parts, .int .i64 a0.Kept, .slice A0_4 a0.Body.length c0_4]) rfl fun g1 w a H F => ?_)
  refine as_ F (v := .bool false) rfl fun a F => ?_
  refine rgend ?_
  refine rg ?_
  obtain ⟨x2, e3, h⟩ := Option.bind_eq_some_iff.1 h
  try dsimp only at h
  refine ls (call F Try.func9 (law16_head_ok (H) e3) rfl rfl fun v w hR a F => ?_)
  obtain ⟨rfl, H⟩ := hR
  refine as_ F rfl fun a F => ?_
  refine rgend ?_
  refine wp_seq ?_
  refine rg ?_
  refine ls (qv F (r_fa (off := 4) (F.ev (x := .tmp 2) rfl) fa24_4) fun a F => ?_)
  refine ls (qv F (r_ld (F.ev (x := .tmp 12) rfl) (cel_cell (o := 4) (H.cell 0 rfl) rfl) one22) fun a F => ?_)
  refine ls (qv F (r_len (F.ev (x := .tmp 13) rfl) Try.underlying22) fun a F => ?_)
  refine ls (qv F (r_gt (F.ev (x := .tmp 14) rfl) (F.ev (x := .const (.int .i64 900)) rfl)) fun a F => ?_)
  refine mv F rfl fun a F => ?_
  by_cases c4 : (a0.Body.length : Int) > 900
  · rw [if_pos c4] at h
    rw [decide_eq_true c4] at F
    refine ls (off F fun a F => ?_)
    refine ls (off F fun a F => ?_)
    refine ls (off F fun a F => ?_)
    refine ls (qv F (r_pickT (F.ev (x := .tmp 16) rfl) (F.ev (x := .const (.bool true)) rfl)) fun a F => ?_)
    refine rgend ?_
    replace F := F.only [20, 5, 2, 1] (l' := [(20, .bool true), (5, .bool x2), (2, .pointer (some ⟨g1, 0, none⟩)), (1, .slice A1_ a1.length c1_)]) rfl
    refine wp_cond_true (F.ev rfl) ?_
    refine rg ?_
    refine mv F rfl fun a F => ?_
    refine as_ F rfl fun a F => ?_
    refine rgend ?_
    replace F := F.only [4] (l' := [(4, .bool x2)]) rfl
    refine wp_ret ?_
    try dsimp only at h
    obtain rfl := Option.some.inj h
    exact RET _ _ (ret1 F rfl rfl ⟨_, rfl, rfl, H.px1.px0.fx0⟩)
  · rw [if_neg c4] at h
    rw [decide_eq_false c4] at F
    refine mv F rfl fun a F => ?_
    refine ls (qv F (r_len (F.ev (x := .tmp 17) rfl) Try.underlying22) fun a F => ?_)
    refine ls (qv F (r_gt (F.ev (x := .tmp 18) rfl) (F.ev (x := .const (.int .i64 900)) rfl)) fun a F => ?_)
    refine ls (qv F (r_pickF (F.ev (x := .tmp 16) rfl) (F.ev (x := .tmp 19) rfl)) fun a F => ?_)
    refine rgend ?_
    replace F := F.only [20, 5, 2, 1] (l' := [(20, .bool (decide ((a1.length : Int) > 900))), (5, .bool x2), (2, .pointer (some ⟨g1, 0, none⟩)), (1, .slice A1_ a1.length c1_)]) rfl
    by_cases c5 : (a1.length : Int) > 900
    · rw [if_pos c5] at h
      rw [decide_eq_true c5] at F
      refine wp_cond_true (F.ev rfl) ?_
      refine rg ?_
      refine mv F rfl fun a F => ?_
      refine as_ F rfl fun a F => ?_
      refine rgend ?_
      replace F := F.only [4] (l' := [(4, .bool x2)]) rfl
      refine wp_ret ?_
      try dsimp only at h
      obtain rfl := Option.some.inj h
      exact RET _ _ (ret1 F rfl rfl ⟨_, rfl, rfl, H.px1.px0.fx0⟩)
    · rw [if_neg c5] at h
      rw [decide_eq_false c5] at F
      refine wp_cond_false (F.ev rfl) ?_
      refine wp_skip ?_
      refine rg ?_
      refine ls (qv F (r_ldA (F.ev (x := .tmp 2) rfl) (cel_range (o := 0) (n := 5) (vs := [.int .i64 a0.Gen, .int .i64 a0.Place, .int .i64 a0.Parts, .int .i64 a0.Kept, .slice A0_4 a0.Body.length c0_4]) (H.cell 0 rfl) rfl) agg24 rfl) fun a F => ?_)
      obtain ⟨x6, e7, h⟩ := Option.bind_eq_some_iff.1 h
      try dsimp only at h
      refine ls (call F Try.func14 (sector_Put_ok (a0 := a0) (H.p0) e7) rfl rfl fun v w hR a F => ?_)
      obtain ⟨A8, c9, rfl, H⟩ := hR
      refine as_ F rfl fun a F => ?_
      refine rgend ?_
      refine rg ?_
      refine mv F rfl fun a F => ?_
      obtain ⟨⟨x10, x11⟩, e12, h⟩ := Option.bind_eq_some_iff.1 h
      try dsimp only at h
      refine ls (call F Try.func10 (sector_Get_ok (H.p0) e12) rfl rfl fun v w hR a F => ?_)
      obtain ⟨A13, c14, rfl, H⟩ := hR
      refine mv F rfl fun a F => ?_
      refine ls (qv F (r_ex (F.ev (x := .tmp 24) rfl) rfl) fun a F => ?_)
      refine ls (qv F (r_ex (F.ev (x := .tmp 24) rfl) rfl) fun a F => ?_)
      refine ls (lal F H ti24 (cs := [.int .i64 0, .int .i64 0, .int .i64 0, .int .i64 0, .slice none 0 0]) rfl fun g15 w a H F => ?_)
      obtain ⟨_, hr, H⟩ := Hp.store (t := 24) (o := 0) (n := 5) (vs := [.int .i64 x10.Gen, .int .i64 x10.Place, .int .i64 x10.Parts, .int .i64 x10.Kept, .slice A13 x10.Body.length c14]) (cs' := [.int .i64 x10.Gen, .int .i64 x10.Place, .int .i64 x10.Parts, .int .i64 x10.Kept, .slice A13 x10.Body.length c14]) (H) (F.ev (x := .tmp 7) rfl) (F.ev (x := .tmp 27) rfl) rfl sz24 rfl (Nat.le_of_ble_eq_true rfl) rfl rfl
      refine ls (qn F (.inl rfl) (hr _ _ _ _) fun a F => ?_)
      refine as_ F rfl fun a F => ?_
      refine rgend ?_
      replace F := F.only [8, 7, 6, 5, 2, 1] (l' := [(8, .bool x11), (7, .pointer (some ⟨g15, 0, none⟩)), (6, .slice A8 x6.length c9), (5, .bool x2), (2, .pointer (some ⟨g1, 0, none⟩)), (1, .slice A1_ a1.length c1_)]) rfl
      refine wp_seq ?_
      refine wp_seq ?_
      obtain ⟨o_16, k_16, h⟩ := Option.bind_eq_some_iff.1 h
      refine cut (fun a w => ∃ (x16 : Bool), x16 = o_16 ∧ Fr 82 [] [(1, .slice A1_ a1.length c1_), (5, .bool x2), (55, .bool x16)] a ∧ Hp w0 (rd kByte A1_ c1_ a1 :: ps) fs w) ?_ ?_
      · skip
        refine wp_region_lit ?_
        refine mv F rfl fun a F => ?_
        refine ls (qv F (r_ldA (F.ev (x := .tmp 2) rfl) (cel_range (o := 0) (n := 5) (vs := [.int .i64 a0.Gen, .int .i64 a0.Place, .int .i64 a0.Parts, .int .i64 a0.Kept, .slice A0_4 a0.Body.length c0_4]) (H.cell 1 rfl) rfl) agg24 rfl) fun a F => ?_)
        obtain ⟨x18, e19, k_16⟩ := Option.bind_eq_some_iff.1 k_16
        try dsimp only at k_16
        refine ls (call F Try.func12 (sector_Right_ok (a0 := a0) (H.p2) e19) rfl rfl fun v w hR a F => ?_)
        obtain ⟨rfl, H⟩ := hR
        refine ls (qv F (r_bne (F.ev (x := .tmp 29) rfl) (F.ev (x := .tmp 31) rfl) Try.underlying4) fun a F => ?_)
        refine mv F rfl fun a F => ?_
        by_cases c20 : (x11 != x18) = true
        · rw [if_pos c20] at k_16
          rw [c20] at F
          refine ls (off F fun a F => ?_)
          refine ls (off F fun a F => ?_)
          refine ls (off F fun a F => ?_)
          refine ls (off F fun a F => ?_)
          refine ls (off F fun a F => ?_)
          refine ls (off F fun a F => ?_)
          refine ls (off F fun a F => ?_)
          refine ls (off F fun a F => ?_)
          refine ls (off F fun a F => ?_)
          refine ls (off F fun a F => ?_)
          refine ls (off F fun a F => ?_)
          refine ls (off F fun a F => ?_)
          refine ls (qv F (r_pickT (F.ev (x := .tmp 33) rfl) (F.ev (x := .const (.bool true)) rfl)) fun a F => ?_)
          refine mv F rfl fun a F => ?_
          refine ls (off F fun a F => ?_)
          refine ls (off F fun a F => ?_)
          refine ls (off F fun a F => ?_)
          refine ls (off F fun a F => ?_)
          refine ls (off F fun a F => ?_)
          refine ls (off F fun a F => ?_)
          refine ls (off F fun a F => ?_)
          refine ls (qv F (r_pickT (F.ev (x := .tmp 47) rfl) (F.ev (x := .const (.bool true)) rfl)) fun a F => ?_)
          refine wpList_nil ?_
          replace F := F.only [55, 5, 1] (l' := [(55, .bool true), (5, .bool x2), (1, .slice A1_ a1.length c1_)]) rfl
          try dsimp only at k_16
          obtain rfl := Option.some.inj k_16
          exact ⟨_, rfl, F.only [1, 5, 55] rfl, H.px2.px1.px0.fx1.fx0⟩
        · rw [if_neg c20] at k_16
          rw [Bool.eq_false_iff.2 c20] at F
          refine mv F rfl fun a F => ?_
          refine mv F rfl fun a F => ?_
          by_cases c21 : x11 = true
          · rw [if_pos c21] at k_16
            rw [c21] at F
            refine ls (qv F (r_ldA (F.ev (x := .tmp 7) rfl) (cel_range (o := 0) (n := 5) (vs := [.int .i64 x10.Gen, .int .i64 x10.Place, .int .i64 x10.Parts, .int .i64 x10.Kept, .slice A13 x10.Body.length c14]) (H.cell 0 rfl) rfl) agg24 rfl) fun a F => ?_)
            refine ls (qv F (r_ldA (F.ev (x := .tmp 2) rfl) (cel_range (o := 0) (n := 5) (vs := [.int .i64 a0.Gen, .int .i64 a0.Place, .int .i64 a0.Parts, .int .i64 a0.Kept, .slice A0_4 a0.Body.length c0_4]) (H.cell 1 rfl) rfl) agg24 rfl) fun a F => ?_)
            obtain ⟨x22, e23, k_16⟩ := Option.bind_eq_some_iff.1 k_16
            try dsimp only at k_16
            refine ls (call F Try.func16 (ref16_Same_ok (a0 := x10) (a1 := a0) (H.p2.p1) e23) rfl rfl fun v w hR a F => ?_)
            obtain ⟨rfl, H⟩ := hR
            refine ls (qv F (r_not (F.ev (x := .tmp 38) rfl)) fun a F => ?_)
            refine mv F rfl fun a F => ?_
            by_cases c24 : x22 = true
            · rw [if_pos c24] at k_16
              rw [c24] at F
              refine mv F rfl fun a F => ?_
              refine ls (qv F (r_len (F.ev (x := .tmp 41) rfl) Try.underlying22) fun a F => ?_)
              refine ls (qv F (r_ne (F.ev (x := .tmp 42) rfl) (F.ev (x := .const (.int .i64 64)) rfl)) fun a F => ?_)
              refine ls (qv F (r_pickF (F.ev (x := .tmp 40) rfl) (F.ev (x := .tmp 43) rfl)) fun a F => ?_)
              refine ls (qv F (r_pickT (F.ev (x := .tmp 35) rfl) (F.ev (x := .tmp 44) rfl)) fun a F => ?_)
              refine ls (qv F (r_pickF (F.ev (x := .tmp 33) rfl) (F.ev (x := .tmp 45) rfl)) fun a F => ?_)
              refine mv F rfl fun a F => ?_
              by_cases c25 : (x6.length : Int) ≠ 64
              · rw [if_pos c25] at k_16
                rw [decide_eq_true c25] at F
                refine ls (off F fun a F => ?_)
                refine ls (off F fun a F => ?_)
                refine ls (off F fun a F => ?_)
                refine ls (off F fun a F => ?_)
                refine ls (off F fun a F => ?_)
                refine ls (off F fun a F => ?_)
                refine ls (off F fun a F => ?_)
                refine ls (qv F (r_pickT (F.ev (x := .tmp 47) rfl) (F.ev (x := .const (.bool true)) rfl)) fun a F => ?_)
                refine wpList_nil ?_
                replace F := F.only [55, 5, 1] (l' := [(55, .bool true), (5, .bool x2), (1, .slice A1_ a1.length c1_)]) rfl
                try dsimp only at k_16
                obtain rfl := Option.some.inj k_16
                exact ⟨_, rfl, F.only [1, 5, 55] rfl, H.px2.px1.px0.fx1.fx0⟩
              · rw [if_neg c25] at k_16
                rw [decide_eq_false c25] at F
                refine mv F rfl fun a F => ?_
                refine ls (qv F (r_not (F.ev (x := .tmp 48) rfl)) fun a F => ?_)
                refine mv F rfl fun a F => ?_
                refine ls (off F fun a F => ?_)
                refine ls (off F fun a F => ?_)
                refine ls (off F fun a F => ?_)
                refine ls (qv F (r_pickF (F.ev (x := .tmp 50) rfl) (F.ev (x := .const (.bool false)) rfl)) fun a F => ?_)
                refine ls (qv F (r_pickF (F.ev (x := .tmp 47) rfl) (F.ev (x := .tmp 54) rfl)) fun a F => ?_)
                refine wpList_nil ?_
                replace F := F.only [55, 5, 1] (l' := [(55, .bool false), (5, .bool x2), (1, .slice A1_ a1.length c1_)]) rfl
                try dsimp only at k_16
                obtain rfl := Option.some.inj k_16
                exact ⟨_, rfl, F.only [1, 5, 55] rfl, H.px2.px1.px0.fx1.fx0⟩
            · rw [if_neg c24] at k_16
              rw [Bool.eq_false_iff.2 c24] at F
              refine ls (off F fun a F => ?_)
              refine ls (off F fun a F => ?_)
              refine ls (off F fun a F => ?_)
              refine ls (qv F (r_pickT (F.ev (x := .tmp 40) rfl) (F.ev (x := .const (.bool true)) rfl)) fun a F => ?_)
              refine ls (qv F (r_pickT (F.ev (x := .tmp 35) rfl) (F.ev (x := .tmp 44) rfl)) fun a F => ?_)
              refine ls (qv F (r_pickF (F.ev (x := .tmp 33) rfl) (F.ev (x := .tmp 45) rfl)) fun a F => ?_)
              refine mv F rfl fun a F => ?_
              refine ls (off F fun a F => ?_)
              refine ls (off F fun a F => ?_)
              refine ls (off F fun a F => ?_)
              refine ls (off F fun a F => ?_)
              refine ls (off F fun a F => ?_)
              refine ls (off F fun a F => ?_)
              refine ls (off F fun a F => ?_)
              refine ls (qv F (r_pickT (F.ev (x := .tmp 47) rfl) (F.ev (x := .const (.bool true)) rfl)) fun a F => ?_)
              refine wpList_nil ?_
              replace F := F.only [55, 5, 1] (l' := [(55, .bool true), (5, .bool x2), (1, .slice A1_ a1.length c1_)]) rfl
              try dsimp only at k_16
              obtain rfl := Option.some.inj k_16
              exact ⟨_, rfl, F.only [1, 5, 55] rfl, H.px2.px1.px0.fx1.fx0⟩
          · rw [if_neg c21] at k_16
            rw [Bool.eq_false_iff.2 c21] at F
            refine ls (off F fun a F => ?_)
            refine ls (off F fun a F => ?_)
            refine ls (off F fun a F => ?_)
            refine ls (off F fun a F => ?_)
            refine ls (off F fun a F => ?_)
            refine ls (off F fun a F => ?_)
            refine ls (off F fun a F => ?_)
            refine ls (off F fun a F => ?_)
            refine ls (off F fun a F => ?_)
            refine ls (qv F (r_pickF (F.ev (x := .tmp 35) rfl) (F.ev (x := .const (.bool false)) rfl)) fun a F => ?_)
            refine ls (qv F (r_pickF (F.ev (x := .tmp 33) rfl) (F.ev (x := .tmp 45) rfl)) fun a F => ?_)
            refine mv F rfl fun a F => ?_
            refine mv F rfl fun a F => ?_
            refine ls (qv F (r_not (F.ev (x := .tmp 48) rfl)) fun a F => ?_)
            refine mv F rfl fun a F => ?_
            refine mv F rfl fun a F => ?_
            refine ls (qv F (r_len (F.ev (x := .tmp 51) rfl) Try.underlying22) fun a F => ?_)
            refine ls (qv F (r_ne (F.ev (x := .tmp 52) rfl) (F.ev (x := .const (.int .i64 0)) rfl)) fun a F => ?_)
            refine ls (qv F (r_pickT (F.ev (x := .tmp 50) rfl) (F.ev (x := .tmp 53) rfl)) fun a F => ?_)
            refine ls (qv F (r_pickF (F.ev (x := .tmp 47) rfl) (F.ev (x := .tmp 54) rfl)) fun a F => ?_)
            refine wpList_nil ?_
            replace F := F.only [55, 5, 1] (l' := [(55, .bool (decide ((x6.length : Int) ≠ 0))), (5, .bool x2), (1, .slice A1_ a1.length c1_)]) rfl
            try dsimp only at k_16
            obtain rfl := Option.some.inj k_16
            exact ⟨_, rfl, F.only [1, 5, 55] rfl, H.px2.px1.px0.fx1.fx0⟩
      · rintro a w ⟨x16, rfl, F, H⟩
        try dsimp only at h F H
        by_cases c26 : x16 = true
        · rw [if_pos c26] at h
          rw [c26] at F
          refine wp_cond_true (F.ev rfl) ?_
          refine rg ?_
          refine as_ F (v := .bool false) rfl fun a F => ?_
          refine rgend ?_
          refine wp_ret ?_
          try dsimp only at h
          obtain rfl := Option.some.inj h
          exact RET _ _ (ret1 F rfl rfl ⟨_, rfl, rfl, H.px0⟩)
        · rw [if_neg c26] at h
          rw [Bool.eq_false_iff.2 c26] at F
          refine wp_cond_false (F.ev rfl) ?_
          refine wp_skip ?_
          refine rg ?_
          refine mv F rfl fun a F => ?_
          obtain ⟨⟨x27, x28⟩, e29, h⟩ := Option.bind_eq_some_iff.1 h
          try dsimp only at h
          refine ls (call F Try.func10 (sector_Get_ok (H.p0) e29) rfl rfl fun v w hR a F => ?_)
          obtain ⟨A30, c31, rfl, H⟩ := hR
          refine mv F rfl fun a F => ?_
          refine ls (qv F (r_ex (F.ev (x := .tmp 56) rfl) rfl) fun a F => ?_)
          refine ls (qv F (r_ex (F.ev (x := .tmp 56) rfl) rfl) fun a F => ?_)
          refine ls (lal F H ti24 (cs := [.int .i64 0, .int .i64 0, .int .i64 0, .int .i64 0, .slice none 0 0]) rfl fun g32 w a H F => ?_)
          obtain ⟨_, hr, H⟩ := Hp.store (t := 24) (o := 0) (n := 5) (vs := [.int .i64 x27.Gen, .int .i64 x27.Place, .int .i64 x27.Parts, .int .i64 x27.Kept, .slice A30 x27.Body.length c31]) (cs' := [.int .i64 x27.Gen, .int .i64 x27.Place, .int .i64 x27.Parts, .int .i64 x27.Kept, .slice A30 x27.Body.length c31]) (H) (F.ev (x := .tmp 9) rfl) (F.ev (x := .tmp 59) rfl) rfl sz24 rfl (Nat.le_of_ble_eq_true rfl) rfl rfl
          refine ls (qn F (.inl rfl) (hr _ _ _ _) fun a F => ?_)
          refine as_ F rfl fun a F => ?_
          refine rgend ?_
          replace F := F.only [10, 9, 1, 5] (l' := [(10, .bool x28), (9, .pointer (some ⟨g32, 0, none⟩)), (1, .slice A1_ a1.length c1_), (5, .bool x2)]) rfl
          refine wp_seq ?_
          refine rg ?_
          refine mv F rfl fun a F => ?_
          refine ls (qv F (r_not (F.ev (x := .tmp 61) rfl)) fun a F => ?_)
          refine rgend ?_
          by_cases c33 : x28 = true
          · rw [if_pos c33] at h
            rw [c33] at F
            refine wp_cond_false (F.ev rfl) ?_
            refine wp_skip ?_
            refine wp_seq ?_
            obtain ⟨o_34, k_34, h⟩ := Option.bind_eq_some_iff.1 h
            refine cut (fun a w => ∃ (x34 : Bool), x34 = o_34 ∧ Fr 82 [] [(4, .bool x34)] a ∧ Hp w0 ps fs w) ?_ ?_
            · skip
              replace H := H.drew
              have HS := H
              refine dr (fun w => Hp w0 (rd kByte A30 c31 x27.Body :: rd kByte A1_ c1_ a1 :: ps) (cel g32 [.int .i64 x27.Gen, .int .i64 x27.Place, .int .i64 x27.Parts, .int .i64 x27.Kept, .slice A30 x27.Body.length c31] 24 :: fs) w) _ (by kernel_rfl) ?_ (n := 14)
              refine dq 0 F rfl (by kernel_rfl) NP HS (fun w S => (r_mv (F.ev (x := .tmp 5) rfl))) fun a F => ?_
              refine dq 1 F rfl (by kernel_rfl) NP HS (fun w S => (r_mv (F.ev (x := .tmp 69) rfl))) fun a F => ?_
              by_cases c36 : x2 = true
              · rw [if_pos c36] at k_34
                rw [c36] at F
                refine dq 2 F rfl (by kernel_rfl) NP HS (fun w S => (r_ldA (F.ev (x := .tmp 9) rfl) (cel_range (o := 0) (n := 5) (vs := [.int .i64 x27.Gen, .int .i64 x27.Place, .int .i64 x27.Parts, .int .i64 x27.Kept, .slice A30 x27.Body.length c31]) (S.cell 0 rfl) rfl) agg24 rfl)) fun a F => ?_
                obtain ⟨x37, e38, k_34⟩ := Option.bind_eq_some_iff.1 k_34
                try dsimp only at k_34
                refine d1 3 rfl (by kernel_rfl) (call F Try.func12 (sector_Right_ok (a0 := x27) (H.p0) e38) rfl rfl fun v w hR a F => ?_)
                obtain ⟨rfl, H⟩ := hR
                have HS := H
                refine kg _ HS (fun w S => S) ?_
                refine dq 4 F rfl (by kernel_rfl) NP HS (fun w S => (r_pickT (F.ev (x := .tmp 70) rfl) (F.ev (x := .tmp 72) rfl))) fun a F => ?_
                refine dq 5 F rfl (by kernel_rfl) NP HS (fun w S => (r_mv (F.ev (x := .tmp 73) rfl))) fun a F => ?_
                by_cases c39 : x37 = true
                · rw [if_pos c39] at k_34
                  rw [c39] at F
                  refine dq 6 F rfl (by kernel_rfl) NP HS (fun w S => (r_ldA (F.ev (x := .tmp 9) rfl) (cel_range (o := 0) (n := 5) (vs := [.int .i64 x27.Gen, .int .i64 x27.Place, .int .i64 x27.Parts, .int .i64 x27.Kept, .slice A30 x27.Body.length c31]) (S.cell 0 rfl) rfl) agg24 rfl)) fun a F => ?_
                  refine dq 9 F rfl (by kernel_rfl) NP HS (fun w S => (r_mv (F.ev (x := .tmp 1) rfl))) fun a F => ?_
                  have hb40 := H.bytes 1 rfl
                  refine dq 10 F rfl (by kernel_rfl) NP HS (fun w S => (S.str 1 rfl (F.ev (x := .tmp 78) rfl) Try.underlying22 Try.underlying5 Try.underlying9)) fun a F => ?_
                  obtain ⟨x41, e42, k_34⟩ := Option.bind_eq_some_iff.1 k_34
                  try dsimp only at k_34
                  refine d1 7 rfl (by kernel_rfl) (call F Try.func14 (sector_Put_ok (a0 := x27) (H.p0) e42) rfl rfl fun v w hR a F => ?_)
                  obtain ⟨A43, c44, rfl, H⟩ := hR
                  have HS := H
                  refine kg _ HS (fun w S => S.px0) ?_
                  have hb45 := H.bytes 0 rfl
                  refine dq 8 F rfl (by kernel_rfl) NP HS (fun w S => (S.str 0 rfl (F.ev (x := .tmp 76) rfl) Try.underlying22 Try.underlying5 Try.underlying9)) fun a F => ?_
                  refine dq 11 F rfl (by kernel_rfl) NP HS (fun w S => (r_seq (F.ev (x := .tmp 77) rfl) (F.ev (x := .tmp 79) rfl) hb45 hb40)) fun a F => ?_
                  refine dq 12 F rfl (by kernel_rfl) NP HS (fun w S => (r_pickT (F.ev (x := .tmp 74) rfl) (F.ev (x := .tmp 80) rfl))) fun a F => ?_
                  refine dq 13 F rfl (by kernel_rfl) NP HS (fun w S => (r_as (F.ev (x := .tmp 81) rfl))) fun a F => ?_
                  refine ddone (by kernel_rfl) ?_
                  replace F := F.only [4] (l' := [(4, .bool (decide (x41 = a1)))]) rfl
                  try dsimp only at k_34
                  obtain rfl := Option.some.inj k_34
                  exact ⟨_, rfl, F.only [4] rfl, H.px2.px1.px0.fx0⟩
                · rw [if_neg c39] at k_34
                  rw [Bool.eq_false_iff.2 c39] at F
                  refine doff 6 F rfl (by kernel_rfl) NP HS fun a F => ?_
                  refine doff 7 F rfl (by kernel_rfl) NP HS fun a F => ?_
                  refine doff 8 F rfl (by kernel_rfl) NP HS fun a F => ?_
                  refine doff 9 F rfl (by kernel_rfl) NP HS fun a F => ?_
                  refine doff 10 F rfl (by kernel_rfl) NP HS fun a F => ?_
                  refine doff 11 F rfl (by kernel_rfl) NP HS fun a F => ?_
                  refine dq 12 F rfl (by kernel_rfl) NP HS (fun w S => (r_pickF (F.ev (x := .tmp 74) rfl) (F.ev (x := .const (.bool false)) rfl))) fun a F => ?_
                  refine dq 13 F rfl (by kernel_rfl) NP HS (fun w S => (r_as (F.ev (x := .tmp 81) rfl))) fun a F => ?_
                  refine ddone (by kernel_rfl) ?_
                  replace F := F.only [4] (l' := [(4, .bool false)]) rfl
                  try dsimp only at k_34
                  obtain rfl := Option.some.inj k_34
                  exact ⟨_, rfl, F.only [4] rfl, H.px1.px0.fx0⟩
              · rw [if_neg c36] at k_34
                rw [Bool.eq_false_iff.2 c36] at F
                refine doff 2 F rfl (by kernel_rfl) NP HS fun a F => ?_
                refine doff 3 F rfl (by kernel_rfl) NP HS fun a F => ?_
                refine dq 4 F rfl (by kernel_rfl) NP HS (fun w S => (r_pickF (F.ev (x := .tmp 70) rfl) (F.ev (x := .const (.bool false)) rfl))) fun a F => ?_
                refine dq 5 F rfl (by kernel_rfl) NP HS (fun w S => (r_mv (F.ev (x := .tmp 73) rfl))) fun a F => ?_
                refine doff 6 F rfl (by kernel_rfl) NP HS fun a F => ?_
                refine doff 7 F rfl (by kernel_rfl) NP HS fun a F => ?_
                refine doff 8 F rfl (by kernel_rfl) NP HS fun a F => ?_
                refine doff 9 F rfl (by kernel_rfl) NP HS fun a F => ?_
                refine doff 10 F rfl (by kernel_rfl) NP HS fun a F => ?_
                refine doff 11 F rfl (by kernel_rfl) NP HS fun a F => ?_
                refine dq 12 F rfl (by kernel_rfl) NP HS (fun w S => (r_pickF (F.ev (x := .tmp 74) rfl) (F.ev (x := .const (.bool false)) rfl))) fun a F => ?_
                refine dq 13 F rfl (by kernel_rfl) NP HS (fun w S => (r_as (F.ev (x := .tmp 81) rfl))) fun a F => ?_
                refine ddone (by kernel_rfl) ?_
                replace F := F.only [4] (l' := [(4, .bool false)]) rfl
                try dsimp only at k_34
                obtain rfl := Option.some.inj k_34
                exact ⟨_, rfl, F.only [4] rfl, H.px1.px0.fx0⟩
            · rintro a w ⟨x34, rfl, F, H⟩
              try dsimp only at h F H
              refine wp_ret ?_
              try dsimp only at h
              obtain rfl := Option.some.inj h
              exact RET _ _ (ret1 F rfl rfl ⟨_, rfl, rfl, H⟩)
          · rw [if_neg c33] at h
            rw [Bool.eq_false_iff.2 c33] at F
            refine wp_cond_true (F.ev rfl) ?_
            refine wp_seq ?_
            obtain ⟨o_46, k_46, h⟩ := Option.bind_eq_some_iff.1 h
            refine cut (fun a w => ∃ (x46 : Bool), x46 = o_46 ∧ Fr 82 [] [(4, .bool x46)] a ∧ Hp w0 ps fs w) ?_ ?_
            · skip
              refine wp_region_lit ?_
              refine mv F rfl fun a F => ?_
              refine mv F rfl fun a F => ?_
              by_cases c48 : x2 = true
              · rw [if_pos c48] at k_46
                rw [c48] at F
                refine ls (qv F (r_ldA (F.ev (x := .tmp 9) rfl) (cel_range (o := 0) (n := 5) (vs := [.int .i64 x27.Gen, .int .i64 x27.Place, .int .i64 x27.Parts, .int .i64 x27.Kept, .slice A30 x27.Body.length c31]) (H.cell 0 rfl) rfl) agg24 rfl) fun a F => ?_)
                refine ls (lbd F (vs := []) (cs := [.int .i64 0, .int .i64 0, .int .i64 0, .int .i64 0, .slice none 0 0]) rfl (fun w => by kernel_rfl) fun a F => ?_)
                replace H := H.nilRd kByte
                obtain ⟨x49, e50, k_46⟩ := Option.bind_eq_some_iff.1 k_46
                try dsimp only at k_46
                refine ls (call F Try.func16 (ref16_Same_ok (a0 := x27) (a1 := (⟨0, 0, 0, 0, []⟩ : api_Sector)) (H.p0.p2) e50) rfl rfl fun v w hR a F => ?_)
                obtain ⟨rfl, H⟩ := hR
                refine ls (qv F (r_pickT (F.ev (x := .tmp 64) rfl) (F.ev (x := .tmp 67) rfl)) fun a F => ?_)
                refine as_ F rfl fun a F => ?_
                refine wpList_nil ?_
                replace F := F.only [4] (l' := [(4, .bool x49)]) rfl
                try dsimp only at k_46
                obtain rfl := Option.some.inj k_46
                exact ⟨_, rfl, F.only [4] rfl, H.px2.px1.px0.fx0⟩
              · rw [if_neg c48] at k_46
                rw [Bool.eq_false_iff.2 c48] at F
                refine ls (off F fun a F => ?_)
                refine ls (off F fun a F => ?_)
                refine ls (off F fun a F => ?_)
                refine ls (qv F (r_pickF (F.ev (x := .tmp 64) rfl) (F.ev (x := .const (.bool false)) rfl)) fun a F => ?_)
                refine as_ F rfl fun a F => ?_
                refine wpList_nil ?_
                replace F := F.only [4] (l' := [(4, .bool false)]) rfl
                try dsimp only at k_46
                obtain rfl := Option.some.inj k_46
                exact ⟨_, rfl, F.only [4] rfl, H.px1.px0.fx0⟩
            · rintro a w ⟨x46, rfl, F, H⟩
              try dsimp only at h F H
              refine wp_ret ?_
              try dsimp only at h
              obtain rfl := Option.some.inj h
              exact RET _ _ (ret1 F rfl rfl ⟨_, rfl, rfl, H⟩)
end Go.Proofs.Ytpijdclonniibaa
