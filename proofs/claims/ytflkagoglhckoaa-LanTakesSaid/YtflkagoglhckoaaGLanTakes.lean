/- What the functions compute. Printed by wip/gen. -/
import Derived.Test.YtflkagoglhckoaaGL
set_option linter.unusedVariables false
set_option linter.unusedSimpArgs false
namespace Go.Proofs.Ytflkagoglhckoaa
open Go Go.RowKit
def law22_LanTakes_b0 (a0 : List law22_Op) : (Int × lan_Lan) → Option (Int × lan_Lan ⊕ lan_Lan)
  | (x10, x11) => (if x10 < (a0.length : Int) then (if 0 ≤ x10 ∧ x10 < (a0.length : Int) then (if 0 ≤ x10 ∧ x10 < (a0.length : Int) then ((lan_Lan_Put_f x11 ((a0.getD (x10 : Int).toNat (⟨0, 0, 0, []⟩ : law22_Op)).To) ((a0.getD (x10 : Int).toNat (⟨0, 0, 0, []⟩ : law22_Op)).B)).bind fun (x27, x28) => some (.inl (IntKind.i64.wrap (x10 + 1), x28))) else none) else none) else some (.inr x11))
def law22_LanTakes_b1 (x7 : Int) (x30 : Int) : ((List (List Int)) × Int × lan_Lan) → Option ((List (List Int)) × Int × lan_Lan ⊕ (((List (List Int)) × lan_Lan) ⊕ Bool))
  | (x49, x52, x53) => (if x52 < x30 then ((lan_Lan_Copy_f x53 x7 x52).bind fun (x60, x61, x62) => (if x61 = true then (if (x49.length + 1) * 24 ≤ 140737488355328 then some (.inl ((x49 ++ ([x60])), IntKind.i64.wrap (x52 + 1), x62)) else none) else some (.inr (.inr false)))) else some (.inr (.inl (x49, x53))))
def law22_LanTakes_b2 (a2 : Int) (x7 : Int) (x30 : Int) (x54 : List (List Int)) : (Int × lan_Lan) → Option (Int × lan_Lan ⊕ (lan_Lan ⊕ Bool))
  | (x94, x95) => (if x94 < (IntKind.i64.wrap (x30 - 1)) then ((lan_Lan_Copy_f x95 x7 x94).bind fun (x99, x100, x101) => (if 0 ≤ x94 ∧ x94 < (x54.length : Int) then ((if x94 ≥ ((IntKind.i64.wrap a2).tmod x30) then (if 0 ≤ IntKind.i64.wrap (x94 + 1) ∧ IntKind.i64.wrap (x94 + 1) < (x54.length : Int) then some ((x54.getD (IntKind.i64.wrap (x94 + 1) : Int).toNat []), true) else none) else some ((x54.getD (x94 : Int).toNat []), false)).bind fun (x111, x114) => (if x100 = true then (if x99 ≠ x111 then some (.inr (.inr false)) else some (.inl (IntKind.i64.wrap (x94 + 1), x101))) else some (.inr (.inr false)))) else none)) else some (.inr (.inl x95)))
def law22_LanTakes_f (a0 : List law22_Op) (a1 : Bool) (a2 : Int) : Option (Bool) :=
  ((law22_head_f).bind fun x1 => ((law22_great_f a0).bind fun x3 => (if x3 = true then some x1 else ((if a1 = true then some 1 else some 0).bind fun x7 => ((lp (law22_LanTakes_b0 a0) (0, (⟨(⟨[]⟩, ⟨[]⟩)⟩ : lan_Lan))).bind fun x12 => ((lan_Lan_Many_f x12 x7).bind fun x30 => ((lan_Lan_Many_f x12 (IntKind.i64.wrap (1 - x7))).bind fun x32 => (if x30 > 200 then ((if x1 = true then some (decide (x30 = 0), true) else some (false, false)).bind fun (x35, x36) => some x35) else (if x32 > 200 then ((if x1 = true then some (decide (x30 = 0), true) else some (false, false)).bind fun (x40, x41) => some x40) else (if x30 = 0 then ((if x1 = true then some (decide (x30 = 0), true) else some (false, false)).bind fun (x45, x46) => some x45) else ((lp (law22_LanTakes_b1 x7 x30) ([], 0, x12)).bind fun q => match q with | .inl (x54, x57) => (if x30 ≠ 0 then ((lan_Lan_Take_f x57 x7 ((IntKind.i64.wrap a2).tmod x30)).bind fun (x72, x73, x74) => (if x73 = true then (if 0 ≤ (IntKind.i64.wrap a2).tmod x30 ∧ (IntKind.i64.wrap a2).tmod x30 < (x54.length : Int) then (if x72 ≠ (x54.getD ((IntKind.i64.wrap a2).tmod x30 : Int).toNat []) then some false else ((lan_Lan_Many_f x74 x7).bind fun x88 => (if x88 ≠ (IntKind.i64.wrap (x30 - 1)) then some false else ((lan_Lan_Many_f x74 (IntKind.i64.wrap (1 - x7))).bind fun x91 => (if x91 ≠ x32 then some false else ((lp (law22_LanTakes_b2 a2 x7 x30 x54) (0, x74)).bind fun q => match q with | .inl x96 => ((lan_Lan_Take_f x96 x7 (IntKind.i64.wrap (x30 - 1))).bind fun (x127, x128, x129) => ((lan_Lan_Copy_f x129 x7 (-1)).bind fun (x133, x134, x135) => ((if x1 = true then (if x128 = true then some false else some (!x134)) else some false).bind fun x139 => some x139))) | .inr r => some r)))))) else none) else some false)) else none) | .inr r => some r)))))))))))
set_option maxHeartbeats 4000000 in
set_option maxRecDepth 20000 in
theorem law22_LanTakes_ok {w0 w : World} {ps : List PF} {fs : List SF} {a0 : List law22_Op} {A0_ : Option Addr} {c0_ : Nat} {a1 : Bool} {a2 : Int} {r0 : Bool} (H : Hp w0 (rd k_law22_Op A0_ c0_ a0 :: ps) fs w) (h : law22_LanTakes_f a0 a1 a2 = some r0) (ha2 : 0 ≤ a2 ∧ a2 < 256) :
    Calls Try.prog 5 [.slice A0_ a0.length c0_, .bool a1, .int .u8 a2].toArray w fun e w' => ∃ v, e = .returned v ∧ v = .bool r0 ∧ Hp w0 ps fs w' := by
  refine enter [.slice A0_ a0.length c0_, .bool a1, .int .u8 a2] 189 Try.func5 fun Q a NP RET NRM F => ?_
  replace NP : ∀ c a w, ¬ Q (.panic c) a w := fun c a w h => by rcases NP c a w h with h | ⟨w, v, h, _⟩ <;> cases h
  unfold law22_LanTakes_f at h
  refine rg ?_
  refine as_ F (v := .bool false) rfl fun a F => ?_
  refine rgend ?_
  refine rg ?_
  obtain ⟨x1, e2, h⟩ := Option.bind_eq_some_iff.1 h
  try dsimp only at h
  refine ls (call F Try.func8 (law22_head_ok (H) e2) rfl rfl fun v w hR a F => ?_)
  obtain ⟨rfl, H⟩ := hR
  refine as_ F rfl fun a F => ?_
  refine rgend ?_
  refine wp_seq ?_
  refine rg ?_
  refine mv F rfl fun a F => ?_
  obtain ⟨x3, e4, h⟩ := Option.bind_eq_some_iff.1 h
  try dsimp only at h
  refine ls (call F Try.func9 (law22_great_ok (H.p0) e4) rfl rfl fun v w hR a F => ?_)
  obtain ⟨rfl, H⟩ := hR
  refine rgend ?_
  by_cases c5 : x3 = true
  · rw [if_pos c5] at h
    rw [c5] at F
    refine wp_cond_true (F.ev rfl) ?_
    refine rg ?_
    refine mv F rfl fun a F => ?_
    refine as_ F rfl fun a F => ?_
    refine rgend ?_
    replace F := F.only [6, 7, 0, 1, 2] (l' := [(6, .bool x1), (7, .bool x1), (0, .slice A0_ a0.length c0_), (1, .bool a1), (2, .int .u8 a2)]) rfl
    refine wp_ret ?_
    try dsimp only at h
    cases h
    exact RET _ _ (ret1 F rfl rfl ⟨_, rfl, rfl, H.px0⟩)
  · rw [if_neg c5] at h
    rw [Bool.eq_false_iff.2 c5] at F
    refine wp_cond_false (F.ev rfl) ?_
    refine wp_skip ?_
    refine rg ?_
    refine ls (lbd F (vs := []) (cs := [.slice none 0 0, .slice none 0 0]) rfl (fun w => by kernel_rfl) fun a F => ?_)
    refine ls (lbox F H rfl (cs := [.slice none 0 0, .slice none 0 0]) rfl fun g6 w a H F => ?_)
    refine as_ F rfl fun a F => ?_
    refine rgend ?_
    replace F := F.only [8, 7, 6, 0, 1, 2] (l' := [(8, .pointer (some ⟨g6, 0, none⟩)), (7, .bool x1), (6, .bool false), (0, .slice A0_ a0.length c0_), (1, .bool a1), (2, .int .u8 a2)]) rfl
    refine rg ?_
    refine as_ F (v := .int .i64 0) rfl fun a F => ?_
    refine rgend ?_
    refine wp_seq ?_
    refine rg ?_
    refine mv F rfl fun a F => ?_
    refine rgend ?_
    obtain ⟨o_7, k_7, h⟩ := Option.bind_eq_some_iff.1 h
    refine cut (fun a w => ∃ (x7 : Int), x7 = o_7 ∧ Fr 189 [] [(0, .slice A0_ a0.length c0_), (2, .int .u8 a2), (6, .bool false), (7, .bool x1), (8, .pointer (some ⟨g6, 0, none⟩)), (9, .int .i64 x7)] a ∧ Hp w0 (rd k_law22_Op A0_ c0_ a0 :: ps) (obj_lan_Lan g6 ((⟨(⟨[]⟩, ⟨[]⟩)⟩ : lan_Lan)) :: fs) w) ?_ ?_
    · skip
      by_cases c9 : a1 = true
      · rw [if_pos c9] at k_7
        rw [c9] at F
        refine wp_cond_true (F.ev rfl) ?_
        refine wp_region_lit ?_
        refine as_ F (v := .int .i64 1) rfl fun a F => ?_
        refine wpList_nil ?_
        replace H := H.nilOwn (kSlice kByte) 35
        replace H := H.nilOwn (kSlice kByte) 35
        replace H := Hp.closeO_lan_Lan (x := (⟨(⟨[]⟩, ⟨[]⟩)⟩ : lan_Lan)) (H.f1.f1.f2)
        try dsimp only at k_7
        cases k_7
        exact ⟨_, rfl, F.only [0, 2, 6, 7, 8, 9] rfl, H⟩
      · rw [if_neg c9] at k_7
        rw [Bool.eq_false_iff.2 c9] at F
        refine wp_cond_false (F.ev rfl) ?_
        refine wp_skip ?_
        replace H := H.nilOwn (kSlice kByte) 35
        replace H := H.nilOwn (kSlice kByte) 35
        replace H := Hp.closeO_lan_Lan (x := (⟨(⟨[]⟩, ⟨[]⟩)⟩ : lan_Lan)) (H.f1.f1.f2)
        try dsimp only at k_7
        cases k_7
        exact ⟨_, rfl, F.only [0, 2, 6, 7, 8, 9] rfl, H⟩
    · rintro a w ⟨x7, rfl, F, H⟩
      try dsimp only at h F H
      refine wp_seq ?_
      refine rg ?_
      refine as_ F (v := .int .i64 0) rfl fun a F => ?_
      refine rgend ?_
      obtain ⟨o_12, k_12, h⟩ := Option.bind_eq_some_iff.1 h
      refine cut (fun a w => ∃ (x12 : lan_Lan), x12 = o_12 ∧ Fr 189 [] [(2, .int .u8 a2), (6, .bool false), (7, .bool x1), (8, .pointer (some ⟨g6, 0, none⟩)), (9, .int .i64 x7)] a ∧ Hp w0 ps (obj_lan_Lan g6 x12 :: fs) w) (wp_block ?_) ?_
      · refine wloop (law22_LanTakes_b0 a0) (fun (s : Int × lan_Lan) a w => Fr 189 [] [(0, .slice A0_ a0.length c0_), (2, .int .u8 a2), (6, .bool false), (7, .bool x1), (8, .pointer (some ⟨g6, 0, none⟩)), (9, .int .i64 x7), (10, .int .i64 s.1)] a ∧ Hp w0 (rd k_law22_Op A0_ c0_ a0 :: ps) (obj_lan_Lan g6 s.2 :: fs) w) k_12 ⟨F.only [0, 2, 6, 7, 8, 9, 10] rfl, H⟩ ?_
        rintro ⟨x10, x11⟩ a w q_12 j_12 u_12 ⟨F, H⟩
        unfold law22_LanTakes_b0 at j_12
        try dsimp only at j_12 F H
        refine wp_seq ?_
        refine rg ?_
        refine mv F rfl fun a F => ?_
        refine mv F rfl fun a F => ?_
        refine ls (qv F (r_len (F.ev (x := .tmp 36) rfl) Try.underlying22) fun a F => ?_)
        refine ls (qv F (r_lt (F.ev (x := .tmp 35) rfl) (F.ev (x := .tmp 37) rfl)) fun a F => ?_)
        refine rgend ?_
        by_cases c14 : x10 < (a0.length : Int)
        · rw [if_pos c14] at j_12
          rw [decide_eq_true c14] at F
          refine wp_cond_true (F.ev rfl) ?_
          refine wp_skip ?_
          refine wp_seq ?_
          refine wp_block ?_
          replace H := H.drew
          have HS := H.fx0
          refine dr (fun w => Hp w0 (rd k_law22_Op A0_ c0_ a0 :: ps) fs w) _ (by kernel_rfl) ?_ (n := 12)
          refine dq 0 F rfl (by kernel_rfl) NP HS (fun w S => (r_mv (F.ev (x := .tmp 8) rfl))) fun a F => ?_
          refine dq 1 F rfl (by kernel_rfl) NP HS (fun w S => (r_mv (F.ev (x := .tmp 0) rfl))) fun a F => ?_
          refine dq 2 F rfl (by kernel_rfl) NP HS (fun w S => (r_mv (F.ev (x := .tmp 10) rfl))) fun a F => ?_
          obtain ⟨c15, j_12⟩ := guardO j_12
          obtain ⟨g16, o17, s18, hr, H⟩ := H.ix (⟨0, 0, 0, []⟩ : law22_Op) 0 rfl (F.ev (x := .tmp 42) rfl) (F.ev (x := .tmp 43) rfl) Try.underlying22 sz37 (by decide) c15.1 c15.2
          obtain ⟨A19, c20, rfl, H⟩ := H.open_law22_Op 1 rfl
          have HS := H.fx0
          refine dmoreH HS (fun w S => S.px2.px1.px0) ?_
          refine dq 3 F rfl (by kernel_rfl) NP HS (fun w S => (hr _ _ _ _ _ _)) fun a F => ?_
          refine dq 4 F rfl (by kernel_rfl) NP HS (fun w S => (r_fa (off := 1) (F.ev (x := .tmp 44) rfl) fa37_1)) fun a F => ?_
          refine dq 5 F rfl (by kernel_rfl) NP HS (fun w S => (r_ld (F.ev (x := .tmp 45) rfl) (range_cell (j := 1) (S.range 1 rfl) rfl) one3)) fun a F => ?_
          refine dq 6 F rfl (by kernel_rfl) NP HS (fun w S => (r_mv (F.ev (x := .tmp 0) rfl))) fun a F => ?_
          refine dq 7 F rfl (by kernel_rfl) NP HS (fun w S => (r_mv (F.ev (x := .tmp 10) rfl))) fun a F => ?_
          obtain ⟨c21, j_12⟩ := guardO j_12
          obtain ⟨g22, o23, s24, hr, H⟩ := H.ix (⟨0, 0, 0, []⟩ : law22_Op) 3 rfl (F.ev (x := .tmp 47) rfl) (F.ev (x := .tmp 48) rfl) Try.underlying22 sz37 (by decide) c21.1 c21.2
          obtain ⟨A25, c26, rfl, H⟩ := H.open_law22_Op 1 rfl
          have HS := H.fx0
          refine dmoreH HS (fun w S => S.px2.px1.px0) ?_
          refine dq 8 F rfl (by kernel_rfl) NP HS (fun w S => (hr _ _ _ _ _ _)) fun a F => ?_
          refine dq 9 F rfl (by kernel_rfl) NP HS (fun w S => (r_fa (off := 3) (F.ev (x := .tmp 49) rfl) fa37_3)) fun a F => ?_
          refine dq 10 F rfl (by kernel_rfl) NP HS (fun w S => (r_ld (F.ev (x := .tmp 50) rfl) (range_cell (j := 3) (S.range 1 rfl) rfl) one35)) fun a F => ?_
          obtain ⟨⟨x27, x28⟩, e29, j_12⟩ := Option.bind_eq_some_iff.1 j_12
          try dsimp only at j_12
          refine d1 11 rfl (by kernel_rfl) (call F Try.func14 (lan_Lan_Put_ok (H.p0) e29) rfl rfl fun v w hR a F => ?_)
          obtain ⟨rfl, H⟩ := hR
          have HS := H.fx0
          refine kg _ HS (fun w S => S) ?_
          refine ddone (by kernel_rfl) ?_
          refine wp_region_lit ?_
          refine mv F rfl fun a F => ?_
          refine ls (qv F (r_add (F.ev (x := .tmp 39) rfl) (F.ev (x := .const (.int .i64 1)) rfl)) fun a F => ?_)
          refine as_ F rfl fun a F => ?_
          refine wpList_nil ?_
          try dsimp only at j_12
          cases j_12
          exact ⟨_, rfl, F.only [0, 2, 6, 7, 8, 9, 10] rfl, H.px5.px4.px3.px2.px1.px0⟩
        · rw [if_neg c14] at j_12
          rw [decide_eq_false c14] at F
          refine wp_cond_false (F.ev rfl) ?_
          refine wp_exit ?_
          try dsimp only at j_12
          cases j_12
          cases u_12 _ rfl
          repeat (with_reducible refine exT ?_)
          with_reducible refine exB ?_
          exact ⟨_, rfl, F.only [2, 6, 7, 8, 9] rfl, H.px0⟩
      · rintro a w ⟨x12, rfl, F, H⟩
        try dsimp only at h F H
        refine rg ?_
        refine mv F rfl fun a F => ?_
        refine mv F rfl fun a F => ?_
        obtain ⟨x30, e31, h⟩ := Option.bind_eq_some_iff.1 h
        try dsimp only at h
        refine ls (call F Try.func16 (lan_Lan_Many_ok (H) e31) rfl rfl fun v w hR a F => ?_)
        obtain ⟨rfl, H⟩ := hR
        refine as_ F rfl fun a F => ?_
        refine rgend ?_
        refine rg ?_
        refine mv F rfl fun a F => ?_
        refine mv F rfl fun a F => ?_
        refine ls (qv F (r_sub (F.ev (x := .const (.int .i64 1)) rfl) (F.ev (x := .tmp 57) rfl)) fun a F => ?_)
        obtain ⟨x32, e33, h⟩ := Option.bind_eq_some_iff.1 h
        try dsimp only at h
        refine ls (call F Try.func16 (lan_Lan_Many_ok (H) e33) rfl rfl fun v w hR a F => ?_)
        obtain ⟨rfl, H⟩ := hR
        refine as_ F rfl fun a F => ?_
        refine rgend ?_
        replace F := F.only [12, 11, 2, 6, 7, 8, 9] (l' := [(12, .int .i64 x32), (11, .int .i64 x30), (2, .int .u8 a2), (6, .bool false), (7, .bool x1), (8, .pointer (some ⟨g6, 0, none⟩)), (9, .int .i64 x7)]) rfl
        refine wp_seq ?_
        refine rg ?_
        refine mv F rfl fun a F => ?_
        refine ls (qv F (r_gt (F.ev (x := .tmp 60) rfl) (F.ev (x := .const (.int .i64 200)) rfl)) fun a F => ?_)
        refine mv F rfl fun a F => ?_
        by_cases c34 : x30 > 200
        · rw [if_pos c34] at h
          rw [decide_eq_true c34] at F
          refine ls (off F fun a F => ?_)
          refine ls (off F fun a F => ?_)
          refine ls (qv F (r_pickT (F.ev (x := .tmp 62) rfl) (F.ev (x := .const (.bool true)) rfl)) fun a F => ?_)
          refine mv F rfl fun a F => ?_
          refine ls (off F fun a F => ?_)
          refine ls (off F fun a F => ?_)
          refine ls (qv F (r_pickT (F.ev (x := .tmp 66) rfl) (F.ev (x := .const (.bool true)) rfl)) fun a F => ?_)
          refine rgend ?_
          replace F := F.only [69, 12, 11, 2, 6, 7, 8, 9] (l' := [(69, .bool true), (12, .int .i64 x32), (11, .int .i64 x30), (2, .int .u8 a2), (6, .bool false), (7, .bool x1), (8, .pointer (some ⟨g6, 0, none⟩)), (9, .int .i64 x7)]) rfl
          refine wp_cond_true (F.ev rfl) ?_
          refine wp_seq ?_
          obtain ⟨o_36, k_36, h⟩ := Option.bind_eq_some_iff.1 h
          refine cut (fun a w => ∃ (x35 : Bool) (x36 : Bool), (x35, x36) = o_36 ∧ Fr 189 [] [(2, .int .u8 a2), (6, .bool x35), (7, .bool x36), (8, .pointer (some ⟨g6, 0, none⟩)), (9, .int .i64 x7), (11, .int .i64 x30), (12, .int .i64 x32)] a ∧ Hp w0 ps (obj_lan_Lan g6 x12 :: fs) w) ?_ ?_
          · skip
            refine wp_region_lit ?_
            refine mv F rfl fun a F => ?_
            refine mv F rfl fun a F => ?_
            by_cases c38 : x1 = true
            · rw [if_pos c38] at k_36
              rw [c38] at F
              refine mv F rfl fun a F => ?_
              refine ls (qv F (r_eq (F.ev (x := .tmp 72) rfl) (F.ev (x := .const (.int .i64 0)) rfl)) fun a F => ?_)
              refine ls (qv F (r_pickT (F.ev (x := .tmp 71) rfl) (F.ev (x := .tmp 73) rfl)) fun a F => ?_)
              refine as_ F rfl fun a F => ?_
              refine wpList_nil ?_
              replace F := F.only [6, 12, 11, 2, 7, 8, 9] (l' := [(6, .bool (decide (x30 = 0))), (12, .int .i64 x32), (11, .int .i64 x30), (2, .int .u8 a2), (7, .bool true), (8, .pointer (some ⟨g6, 0, none⟩)), (9, .int .i64 x7)]) rfl
              try dsimp only at k_36
              cases k_36
              exact ⟨_, _, rfl, F.only [2, 6, 7, 8, 9, 11, 12] rfl, H⟩
            · rw [if_neg c38] at k_36
              rw [Bool.eq_false_iff.2 c38] at F
              refine ls (off F fun a F => ?_)
              refine ls (off F fun a F => ?_)
              refine ls (qv F (r_pickF (F.ev (x := .tmp 71) rfl) (F.ev (x := .const (.bool false)) rfl)) fun a F => ?_)
              refine as_ F rfl fun a F => ?_
              refine wpList_nil ?_
              replace F := F.only [6, 12, 11, 2, 7, 8, 9] (l' := [(6, .bool false), (12, .int .i64 x32), (11, .int .i64 x30), (2, .int .u8 a2), (7, .bool false), (8, .pointer (some ⟨g6, 0, none⟩)), (9, .int .i64 x7)]) rfl
              try dsimp only at k_36
              cases k_36
              exact ⟨_, _, rfl, F.only [2, 6, 7, 8, 9, 11, 12] rfl, H⟩
          · rintro a w ⟨x35, x36, rfl, F, H⟩
            try dsimp only at h F H
            refine wp_ret ?_
            try dsimp only at h
            cases h
            exact RET _ _ (ret1 F rfl rfl ⟨_, rfl, rfl, H.fx0⟩)
        · rw [if_neg c34] at h
          rw [decide_eq_false c34] at F
          refine mv F rfl fun a F => ?_
          refine ls (qv F (r_gt (F.ev (x := .tmp 63) rfl) (F.ev (x := .const (.int .i64 200)) rfl)) fun a F => ?_)
          refine ls (qv F (r_pickF (F.ev (x := .tmp 62) rfl) (F.ev (x := .tmp 64) rfl)) fun a F => ?_)
          refine mv F rfl fun a F => ?_
          by_cases c39 : x32 > 200
          · rw [if_pos c39] at h
            rw [decide_eq_true c39] at F
            refine ls (off F fun a F => ?_)
            refine ls (off F fun a F => ?_)
            refine ls (qv F (r_pickT (F.ev (x := .tmp 66) rfl) (F.ev (x := .const (.bool true)) rfl)) fun a F => ?_)
            refine rgend ?_
            replace F := F.only [69, 12, 11, 2, 6, 7, 8, 9] (l' := [(69, .bool true), (12, .int .i64 x32), (11, .int .i64 x30), (2, .int .u8 a2), (6, .bool false), (7, .bool x1), (8, .pointer (some ⟨g6, 0, none⟩)), (9, .int .i64 x7)]) rfl
            refine wp_cond_true (F.ev rfl) ?_
            refine wp_seq ?_
            obtain ⟨o_41, k_41, h⟩ := Option.bind_eq_some_iff.1 h
            refine cut (fun a w => ∃ (x40 : Bool) (x41 : Bool), (x40, x41) = o_41 ∧ Fr 189 [] [(2, .int .u8 a2), (6, .bool x40), (7, .bool x41), (8, .pointer (some ⟨g6, 0, none⟩)), (9, .int .i64 x7), (11, .int .i64 x30), (12, .int .i64 x32)] a ∧ Hp w0 ps (obj_lan_Lan g6 x12 :: fs) w) ?_ ?_
            · skip
              refine wp_region_lit ?_
              refine mv F rfl fun a F => ?_
              refine mv F rfl fun a F => ?_
              by_cases c43 : x1 = true
              · rw [if_pos c43] at k_41
                rw [c43] at F
                refine mv F rfl fun a F => ?_
                refine ls (qv F (r_eq (F.ev (x := .tmp 72) rfl) (F.ev (x := .const (.int .i64 0)) rfl)) fun a F => ?_)
                refine ls (qv F (r_pickT (F.ev (x := .tmp 71) rfl) (F.ev (x := .tmp 73) rfl)) fun a F => ?_)
                refine as_ F rfl fun a F => ?_
                refine wpList_nil ?_
                replace F := F.only [6, 12, 11, 2, 7, 8, 9] (l' := [(6, .bool (decide (x30 = 0))), (12, .int .i64 x32), (11, .int .i64 x30), (2, .int .u8 a2), (7, .bool true), (8, .pointer (some ⟨g6, 0, none⟩)), (9, .int .i64 x7)]) rfl
                try dsimp only at k_41
                cases k_41
                exact ⟨_, _, rfl, F.only [2, 6, 7, 8, 9, 11, 12] rfl, H⟩
              · rw [if_neg c43] at k_41
                rw [Bool.eq_false_iff.2 c43] at F
                refine ls (off F fun a F => ?_)
                refine ls (off F fun a F => ?_)
                refine ls (qv F (r_pickF (F.ev (x := .tmp 71) rfl) (F.ev (x := .const (.bool false)) rfl)) fun a F => ?_)
                refine as_ F rfl fun a F => ?_
                refine wpList_nil ?_
                replace F := F.only [6, 12, 11, 2, 7, 8, 9] (l' := [(6, .bool false), (12, .int .i64 x32), (11, .int .i64 x30), (2, .int .u8 a2), (7, .bool false), (8, .pointer (some ⟨g6, 0, none⟩)), (9, .int .i64 x7)]) rfl
                try dsimp only at k_41
                cases k_41
                exact ⟨_, _, rfl, F.only [2, 6, 7, 8, 9, 11, 12] rfl, H⟩
            · rintro a w ⟨x40, x41, rfl, F, H⟩
              try dsimp only at h F H
              refine wp_ret ?_
              try dsimp only at h
              cases h
              exact RET _ _ (ret1 F rfl rfl ⟨_, rfl, rfl, H.fx0⟩)
          · rw [if_neg c39] at h
            rw [decide_eq_false c39] at F
            refine mv F rfl fun a F => ?_
            refine ls (qv F (r_eq (F.ev (x := .tmp 67) rfl) (F.ev (x := .const (.int .i64 0)) rfl)) fun a F => ?_)
            refine ls (qv F (r_pickF (F.ev (x := .tmp 66) rfl) (F.ev (x := .tmp 68) rfl)) fun a F => ?_)
            refine rgend ?_
            replace F := F.only [69, 12, 11, 2, 6, 7, 8, 9] (l' := [(69, .bool (decide (x30 = 0))), (12, .int .i64 x32), (11, .int .i64 x30), (2, .int .u8 a2), (6, .bool false), (7, .bool x1), (8, .pointer (some ⟨g6, 0, none⟩)), (9, .int .i64 x7)]) rfl
            by_cases c44 : x30 = 0
            · rw [if_pos c44] at h
              rw [decide_eq_true c44] at F
              refine wp_cond_true (F.ev rfl) ?_
              refine wp_seq ?_
              obtain ⟨o_46, k_46, h⟩ := Option.bind_eq_some_iff.1 h
              refine cut (fun a w => ∃ (x45 : Bool) (x46 : Bool), (x45, x46) = o_46 ∧ Fr 189 [] [(2, .int .u8 a2), (6, .bool x45), (7, .bool x46), (8, .pointer (some ⟨g6, 0, none⟩)), (9, .int .i64 x7), (11, .int .i64 x30), (12, .int .i64 x32)] a ∧ Hp w0 ps (obj_lan_Lan g6 x12 :: fs) w) ?_ ?_
              · skip
                refine wp_region_lit ?_
                refine mv F rfl fun a F => ?_
                refine mv F rfl fun a F => ?_
                by_cases c48 : x1 = true
                · rw [if_pos c48] at k_46
                  rw [c48] at F
                  refine mv F rfl fun a F => ?_
                  refine ls (qv F (r_eq (F.ev (x := .tmp 72) rfl) (F.ev (x := .const (.int .i64 0)) rfl)) fun a F => ?_)
                  refine ls (qv F (r_pickT (F.ev (x := .tmp 71) rfl) (F.ev (x := .tmp 73) rfl)) fun a F => ?_)
                  refine as_ F rfl fun a F => ?_
                  refine wpList_nil ?_
                  replace F := F.only [6, 12, 11, 2, 7, 8, 9] (l' := [(6, .bool (decide (x30 = 0))), (12, .int .i64 x32), (11, .int .i64 x30), (2, .int .u8 a2), (7, .bool true), (8, .pointer (some ⟨g6, 0, none⟩)), (9, .int .i64 x7)]) rfl
                  try dsimp only at k_46
                  cases k_46
                  exact ⟨_, _, rfl, F.only [2, 6, 7, 8, 9, 11, 12] rfl, H⟩
                · rw [if_neg c48] at k_46
                  rw [Bool.eq_false_iff.2 c48] at F
                  refine ls (off F fun a F => ?_)
                  refine ls (off F fun a F => ?_)
                  refine ls (qv F (r_pickF (F.ev (x := .tmp 71) rfl) (F.ev (x := .const (.bool false)) rfl)) fun a F => ?_)
                  refine as_ F rfl fun a F => ?_
                  refine wpList_nil ?_
                  replace F := F.only [6, 12, 11, 2, 7, 8, 9] (l' := [(6, .bool false), (12, .int .i64 x32), (11, .int .i64 x30), (2, .int .u8 a2), (7, .bool false), (8, .pointer (some ⟨g6, 0, none⟩)), (9, .int .i64 x7)]) rfl
                  try dsimp only at k_46
                  cases k_46
                  exact ⟨_, _, rfl, F.only [2, 6, 7, 8, 9, 11, 12] rfl, H⟩
              · rintro a w ⟨x45, x46, rfl, F, H⟩
                try dsimp only at h F H
                refine wp_ret ?_
                try dsimp only at h
                cases h
                exact RET _ _ (ret1 F rfl rfl ⟨_, rfl, rfl, H.fx0⟩)
            · rw [if_neg c44] at h
              rw [decide_eq_false c44] at F
              refine wp_cond_false (F.ev rfl) ?_
              refine wp_skip ?_
              refine rg ?_
              refine as_ F (v := .slice none 0 0) rfl fun a F => ?_
              refine rgend ?_
              refine wp_seq ?_
              refine rg ?_
              refine as_ F (v := .int .i64 0) rfl fun a F => ?_
              refine rgend ?_
              replace H := H.nilOwn (kSlice kByte) 35
              obtain ⟨o_57, k_57, h⟩ := Option.bind_eq_some_iff.1 h
              refine cut (fun a w => ∃ (x54 : List (List Int)) (x57 : lan_Lan), Sum.inl (x54, x57) = o_57 ∧ ∃ (A55 : Option Addr) (c56 : Nat), Fr 189 [] [(2, .int .u8 a2), (6, .bool false), (7, .bool x1), (8, .pointer (some ⟨g6, 0, none⟩)), (9, .int .i64 x7), (11, .int .i64 x30), (12, .int .i64 x32), (13, .slice A55 x54.length c56)] a ∧ Hp w0 ps (own (kSlice kByte) 35 A55 c56 x54 :: obj_lan_Lan g6 x57 :: fs) w) (wp_block ?_) ?_
              · refine wloop (law22_LanTakes_b1 x7 x30) (fun (s : (List (List Int)) × Int × lan_Lan) a w => ∃ (A50 : Option Addr) (c51 : Nat), Fr 189 [] [(2, .int .u8 a2), (6, .bool false), (7, .bool x1), (8, .pointer (some ⟨g6, 0, none⟩)), (9, .int .i64 x7), (11, .int .i64 x30), (12, .int .i64 x32), (13, .slice A50 s.1.length c51), (14, .int .i64 s.2.1)] a ∧ Hp w0 ps (own (kSlice kByte) 35 A50 c51 s.1 :: obj_lan_Lan g6 s.2.2 :: fs) w) k_57 ⟨none, 0, F.only [2, 6, 7, 8, 9, 11, 12, 13, 14] rfl, H⟩ ?_
                rintro ⟨x49, x52, x53⟩ a w q_57 j_57 u_57 ⟨A50, c51, F, H⟩
                unfold law22_LanTakes_b1 at j_57
                try dsimp only at j_57 F H
                refine wp_seq ?_
                refine rg ?_
                refine mv F rfl fun a F => ?_
                refine mv F rfl fun a F => ?_
                refine ls (qv F (r_lt (F.ev (x := .tmp 75) rfl) (F.ev (x := .tmp 76) rfl)) fun a F => ?_)
                refine rgend ?_
                by_cases c59 : x52 < x30
                · rw [if_pos c59] at j_57
                  rw [decide_eq_true c59] at F
                  refine wp_cond_true (F.ev rfl) ?_
                  refine wp_skip ?_
                  refine wp_seq ?_
                  refine wp_block ?_
                  refine rg ?_
                  refine mv F rfl fun a F => ?_
                  refine mv F rfl fun a F => ?_
                  refine mv F rfl fun a F => ?_
                  obtain ⟨⟨x60, x61, x62⟩, e63, j_57⟩ := Option.bind_eq_some_iff.1 j_57
                  try dsimp only at j_57
                  refine ls (call F Try.func12 (lan_Lan_Copy_ok (H.f1) e63) rfl rfl fun v w hR a F => ?_)
                  obtain ⟨A64, c65, rfl, H⟩ := hR
                  refine mv F rfl fun a F => ?_
                  refine ls (qv F (r_ex (F.ev (x := .tmp 80) rfl) rfl) fun a F => ?_)
                  refine ls (qv F (r_ex (F.ev (x := .tmp 80) rfl) rfl) fun a F => ?_)
                  refine as_ F rfl fun a F => ?_
                  refine as_ F rfl fun a F => ?_
                  refine rgend ?_
                  refine wp_seq ?_
                  refine rg ?_
                  refine mv F rfl fun a F => ?_
                  refine ls (qv F (r_not (F.ev (x := .tmp 87) rfl)) fun a F => ?_)
                  refine rgend ?_
                  by_cases c66 : x61 = true
                  · rw [if_pos c66] at j_57
                    rw [c66] at F
                    refine wp_cond_false (F.ev rfl) ?_
                    refine wp_skip ?_
                    refine wp_region_lit ?_
                    refine mv F rfl fun a F => ?_
                    refine mv F rfl fun a F => ?_
                    replace H := (H).freeze
                    refine ls (lbs F H (e := 35) (vs := [(0, .slice A64 x60.length c65)]) (cs := [.slice A64 x60.length c65]) rfl (fun w => by kernel_rfl) fun g67 w a H F => ?_)
                    obtain ⟨c68, j_57⟩ := guardO j_57
                    obtain ⟨A69, c70, _, hr, H⟩ := Hp.appendCelL (kd := (kSlice kByte)) (xs := x49) (ys := [x60]) (H.f1.f1.f2) (F.ev (x := .tmp 89) rfl) (F.ev (x := .tmp 91) rfl) Try.underlying26 ti35 rfl (by decide) (by decide) rfl ((SayL.cons (kd := (kSlice kByte)) (c1 := [.slice A64 x60.length c65]) (y := x60) (fun Z hp => ⟨A64, c65, rfl, pat hp 0 rfl⟩) SayL.nil)) c68
                    refine ls (qv F (hr _ _ _ _ _) fun a F => ?_)
                    refine as_ F rfl fun a F => ?_
                    refine wpList_nil ?_
                    refine wp_region_lit ?_
                    refine mv F rfl fun a F => ?_
                    refine ls (qv F (r_add (F.ev (x := .tmp 78) rfl) (F.ev (x := .const (.int .i64 1)) rfl)) fun a F => ?_)
                    refine as_ F rfl fun a F => ?_
                    refine wpList_nil ?_
                    try dsimp only at j_57
                    cases j_57
                    exact ⟨_, rfl, A69, c70, F.only [2, 6, 7, 8, 9, 11, 12, 13, 14] rfl, H.px0⟩
                  · rw [if_neg c66] at j_57
                    rw [Bool.eq_false_iff.2 c66] at F
                    refine wp_cond_true (F.ev rfl) ?_
                    refine rg ?_
                    refine as_ F (v := .bool false) rfl fun a F => ?_
                    refine rgend ?_
                    refine wp_ret ?_
                    try dsimp only at j_57
                    cases j_57
                    cases u_57 _ rfl
                    try dsimp only at h
                    cases h
                    exact RET _ _ (ret1 F rfl rfl ⟨_, rfl, rfl, H.fx2.fx1.fx0⟩)
                · rw [if_neg c59] at j_57
                  rw [decide_eq_false c59] at F
                  refine wp_cond_false (F.ev rfl) ?_
                  refine wp_exit ?_
                  try dsimp only at j_57
                  cases j_57
                  cases u_57 _ rfl
                  repeat (with_reducible refine exT ?_)
                  with_reducible refine exB ?_
                  exact ⟨_, _, rfl, A50, c51, F.only [2, 6, 7, 8, 9, 11, 12, 13] rfl, H⟩
              · rintro a w ⟨x54, x57, rfl, A55, c56, F, H⟩
                try dsimp only at h F H
                refine rg ?_
                refine mv F rfl fun a F => ?_
                refine ls (qv F (r_ci (F.ev (x := .tmp 93) rfl) Try.underlying3 Try.underlying5) fun a F => ?_)
                refine mv F rfl fun a F => ?_
                obtain ⟨c71, h⟩ := guardO h
                refine ls (qv F (r_rem (F.ev (x := .tmp 94) rfl) (F.ev (x := .tmp 95) rfl) c71) fun a F => ?_)
                refine as_ F rfl fun a F => ?_
                refine rgend ?_
                replace F := F.only [17, 6, 7, 8, 9, 11, 12, 13] (l' := [(17, .int .i64 ((IntKind.i64.wrap a2).tmod x30)), (6, .bool false), (7, .bool x1), (8, .pointer (some ⟨g6, 0, none⟩)), (9, .int .i64 x7), (11, .int .i64 x30), (12, .int .i64 x32), (13, .slice A55 x54.length c56)]) rfl
                refine rg ?_
                refine mv F rfl fun a F => ?_
                refine mv F rfl fun a F => ?_
                refine mv F rfl fun a F => ?_
                obtain ⟨⟨x72, x73, x74⟩, e75, h⟩ := Option.bind_eq_some_iff.1 h
                try dsimp only at h
                refine ls (call F Try.func10 (lan_Lan_Take_ok (H.f1) e75) rfl rfl fun v w hR a F => ?_)
                obtain ⟨A76, c77, rfl, H⟩ := hR
                refine mv F rfl fun a F => ?_
                refine ls (qv F (r_ex (F.ev (x := .tmp 97) rfl) rfl) fun a F => ?_)
                refine ls (qv F (r_ex (F.ev (x := .tmp 97) rfl) rfl) fun a F => ?_)
                refine as_ F rfl fun a F => ?_
                refine as_ F rfl fun a F => ?_
                refine rgend ?_
                replace F := F.only [19, 18, 17, 6, 7, 8, 9, 11, 12, 13] (l' := [(19, .bool x73), (18, .slice A76 x72.length c77), (17, .int .i64 ((IntKind.i64.wrap a2).tmod x30)), (6, .bool false), (7, .bool x1), (8, .pointer (some ⟨g6, 0, none⟩)), (9, .int .i64 x7), (11, .int .i64 x30), (12, .int .i64 x32), (13, .slice A55 x54.length c56)]) rfl
                refine wp_seq ?_
                refine wp_seq ?_
                replace H := H.drew
                have HS := H.fx2.fx1.fx0
                refine dr (fun w => Hp w0 ps fs w) _ (by kernel_rfl) ?_ (n := 28)
                refine dq 0 F rfl (by kernel_rfl) NP HS (fun w S => (r_mv (F.ev (x := .tmp 19) rfl))) fun a F => ?_
                refine dq 1 F rfl (by kernel_rfl) NP HS (fun w S => (r_not (F.ev (x := .tmp 104) rfl))) fun a F => ?_
                refine dq 2 F rfl (by kernel_rfl) NP HS (fun w S => (r_mv (F.ev (x := .tmp 105) rfl))) fun a F => ?_
                by_cases c78 : x73 = true
                · rw [if_pos c78] at h
                  rw [c78] at F
                  refine dq 3 F rfl (by kernel_rfl) NP HS (fun w S => (r_mv (F.ev (x := .tmp 18) rfl))) fun a F => ?_
                  replace H := (H).freeze
                  have hb79 := H.bytes 0 rfl
                  have HS := H.fx1.fx0
                  refine dmoreH HS (fun w S => S.px0) ?_
                  refine dq 4 F rfl (by kernel_rfl) NP HS (fun w S => (S.str 0 rfl (F.ev (x := .tmp 107) rfl) Try.underlying35 Try.underlying5 Try.underlying9)) fun a F => ?_
                  refine dq 5 F rfl (by kernel_rfl) NP HS (fun w S => (r_mv (F.ev (x := .tmp 13) rfl))) fun a F => ?_
                  refine dq 6 F rfl (by kernel_rfl) NP HS (fun w S => (r_mv (F.ev (x := .tmp 17) rfl))) fun a F => ?_
                  replace H := (H.f1).freeze
                  obtain ⟨c80, h⟩ := guardO h
                  obtain ⟨g81, o82, s83, hr, H⟩ := H.ix [] 0 rfl (F.ev (x := .tmp 109) rfl) (F.ev (x := .tmp 110) rfl) Try.underlying26 sz35 (by decide) c80.1 c80.2
                  obtain ⟨A84, c85, rfl, H⟩ := H.says_slice 1 rfl
                  have HS := H.fx0
                  refine dmoreH HS (fun w S => S.px3.px2.px1.px0) ?_
                  refine dq 7 F rfl (by kernel_rfl) NP HS (fun w S => (hr _ _ _ _ _ _)) fun a F => ?_
                  refine dq 8 F rfl (by kernel_rfl) NP HS (fun w S => (r_ld (F.ev (x := .tmp 111) rfl) (range_cell (j := 0) (S.range 1 rfl) rfl) one35)) fun a F => ?_
                  have hb86 := H.bytes 0 rfl
                  refine dq 9 F rfl (by kernel_rfl) NP HS (fun w S => (S.str 0 rfl (F.ev (x := .tmp 112) rfl) Try.underlying35 Try.underlying5 Try.underlying9)) fun a F => ?_
                  refine dq 10 F rfl (by kernel_rfl) NP HS (fun w S => (r_sne (F.ev (x := .tmp 108) rfl) (F.ev (x := .tmp 113) rfl) hb79 hb86)) fun a F => ?_
                  refine dq 11 F rfl (by kernel_rfl) NP HS (fun w S => (r_pickF (F.ev (x := .tmp 106) rfl) (F.ev (x := .tmp 114) rfl))) fun a F => ?_
                  refine dq 12 F rfl (by kernel_rfl) NP HS (fun w S => (r_mv (F.ev (x := .tmp 115) rfl))) fun a F => ?_
                  by_cases c87 : x72 ≠ (x54.getD ((IntKind.i64.wrap a2).tmod x30 : Int).toNat [])
                  · rw [if_pos c87] at h
                    rw [decide_eq_true c87] at F
                    refine doff 13 F rfl (by kernel_rfl) NP HS fun a F => ?_
                    refine doff 14 F rfl (by kernel_rfl) NP HS fun a F => ?_
                    refine doff 15 F rfl (by kernel_rfl) NP HS fun a F => ?_
                    refine doff 16 F rfl (by kernel_rfl) NP HS fun a F => ?_
                    refine doff 17 F rfl (by kernel_rfl) NP HS fun a F => ?_
                    refine doff 18 F rfl (by kernel_rfl) NP HS fun a F => ?_
                    refine dq 19 F rfl (by kernel_rfl) NP HS (fun w S => (r_pickT (F.ev (x := .tmp 116) rfl) (F.ev (x := .const (.bool true)) rfl))) fun a F => ?_
                    refine dq 20 F rfl (by kernel_rfl) NP HS (fun w S => (r_mv (F.ev (x := .tmp 123) rfl))) fun a F => ?_
                    refine doff 21 F rfl (by kernel_rfl) NP HS fun a F => ?_
                    refine doff 22 F rfl (by kernel_rfl) NP HS fun a F => ?_
                    refine doff 23 F rfl (by kernel_rfl) NP HS fun a F => ?_
                    refine doff 24 F rfl (by kernel_rfl) NP HS fun a F => ?_
                    refine doff 25 F rfl (by kernel_rfl) NP HS fun a F => ?_
                    refine doff 26 F rfl (by kernel_rfl) NP HS fun a F => ?_
                    refine dq 27 F rfl (by kernel_rfl) NP HS (fun w S => (r_pickT (F.ev (x := .tmp 124) rfl) (F.ev (x := .const (.bool true)) rfl))) fun a F => ?_
                    refine ddone (by kernel_rfl) ?_
                    replace F := F.only [131, 17, 6, 7, 8, 9, 11, 13] (l' := [(131, .bool true), (17, .int .i64 ((IntKind.i64.wrap a2).tmod x30)), (6, .bool false), (7, .bool x1), (8, .pointer (some ⟨g6, 0, none⟩)), (9, .int .i64 x7), (11, .int .i64 x30), (13, .slice A55 x54.length c56)]) rfl
                    refine wp_cond_true (F.ev rfl) ?_
                    refine rg ?_
                    refine as_ F (v := .bool false) rfl fun a F => ?_
                    refine rgend ?_
                    refine wp_ret ?_
                    try dsimp only at h
                    cases h
                    exact RET _ _ (ret1 F rfl rfl ⟨_, rfl, rfl, H.px4.px3.px2.px1.px0.fx0⟩)
                  · rw [if_neg c87] at h
                    rw [decide_eq_false c87] at F
                    refine dq 13 F rfl (by kernel_rfl) NP HS (fun w S => (r_mv (F.ev (x := .tmp 8) rfl))) fun a F => ?_
                    refine dq 14 F rfl (by kernel_rfl) NP HS (fun w S => (r_mv (F.ev (x := .tmp 9) rfl))) fun a F => ?_
                    refine dq 16 F rfl (by kernel_rfl) NP HS (fun w S => (r_mv (F.ev (x := .tmp 11) rfl))) fun a F => ?_
                    refine dq 17 F rfl (by kernel_rfl) NP HS (fun w S => (r_sub (F.ev (x := .tmp 120) rfl) (F.ev (x := .const (.int .i64 1)) rfl))) fun a F => ?_
                    obtain ⟨x88, e89, h⟩ := Option.bind_eq_some_iff.1 h
                    try dsimp only at h
                    refine d1 15 rfl (by kernel_rfl) (call F Try.func16 (lan_Lan_Many_ok (H) e89) rfl rfl fun v w hR a F => ?_)
                    obtain ⟨rfl, H⟩ := hR
                    have HS := H.fx0
                    refine kg _ HS (fun w S => S) ?_
                    refine dq 18 F rfl (by kernel_rfl) NP HS (fun w S => (r_ne (F.ev (x := .tmp 119) rfl) (F.ev (x := .tmp 121) rfl))) fun a F => ?_
                    refine dq 19 F rfl (by kernel_rfl) NP HS (fun w S => (r_pickF (F.ev (x := .tmp 116) rfl) (F.ev (x := .tmp 122) rfl))) fun a F => ?_
                    refine dq 20 F rfl (by kernel_rfl) NP HS (fun w S => (r_mv (F.ev (x := .tmp 123) rfl))) fun a F => ?_
                    by_cases c90 : x88 ≠ (IntKind.i64.wrap (x30 - 1))
                    · rw [if_pos c90] at h
                      rw [decide_eq_true c90] at F
                      refine doff 21 F rfl (by kernel_rfl) NP HS fun a F => ?_
                      refine doff 22 F rfl (by kernel_rfl) NP HS fun a F => ?_
                      refine doff 23 F rfl (by kernel_rfl) NP HS fun a F => ?_
                      refine doff 24 F rfl (by kernel_rfl) NP HS fun a F => ?_
                      refine doff 25 F rfl (by kernel_rfl) NP HS fun a F => ?_
                      refine doff 26 F rfl (by kernel_rfl) NP HS fun a F => ?_
                      refine dq 27 F rfl (by kernel_rfl) NP HS (fun w S => (r_pickT (F.ev (x := .tmp 124) rfl) (F.ev (x := .const (.bool true)) rfl))) fun a F => ?_
                      refine ddone (by kernel_rfl) ?_
                      replace F := F.only [131, 17, 6, 7, 8, 9, 11, 13] (l' := [(131, .bool true), (17, .int .i64 ((IntKind.i64.wrap a2).tmod x30)), (6, .bool false), (7, .bool x1), (8, .pointer (some ⟨g6, 0, none⟩)), (9, .int .i64 x7), (11, .int .i64 x30), (13, .slice A55 x54.length c56)]) rfl
                      refine wp_cond_true (F.ev rfl) ?_
                      refine rg ?_
                      refine as_ F (v := .bool false) rfl fun a F => ?_
                      refine rgend ?_
                      refine wp_ret ?_
                      try dsimp only at h
                      cases h
                      exact RET _ _ (ret1 F rfl rfl ⟨_, rfl, rfl, H.px4.px3.px2.px1.px0.fx0⟩)
                    · rw [if_neg c90] at h
                      rw [decide_eq_false c90] at F
                      refine dq 21 F rfl (by kernel_rfl) NP HS (fun w S => (r_mv (F.ev (x := .tmp 8) rfl))) fun a F => ?_
                      refine dq 22 F rfl (by kernel_rfl) NP HS (fun w S => (r_mv (F.ev (x := .tmp 9) rfl))) fun a F => ?_
                      refine dq 23 F rfl (by kernel_rfl) NP HS (fun w S => (r_sub (F.ev (x := .const (.int .i64 1)) rfl) (F.ev (x := .tmp 126) rfl))) fun a F => ?_
                      refine dq 25 F rfl (by kernel_rfl) NP HS (fun w S => (r_mv (F.ev (x := .tmp 12) rfl))) fun a F => ?_
                      obtain ⟨x91, e92, h⟩ := Option.bind_eq_some_iff.1 h
                      try dsimp only at h
                      refine d1 24 rfl (by kernel_rfl) (call F Try.func16 (lan_Lan_Many_ok (H) e92) rfl rfl fun v w hR a F => ?_)
                      obtain ⟨rfl, H⟩ := hR
                      have HS := H.fx0
                      refine kg _ HS (fun w S => S) ?_
                      refine dq 26 F rfl (by kernel_rfl) NP HS (fun w S => (r_ne (F.ev (x := .tmp 128) rfl) (F.ev (x := .tmp 129) rfl))) fun a F => ?_
                      refine dq 27 F rfl (by kernel_rfl) NP HS (fun w S => (r_pickF (F.ev (x := .tmp 124) rfl) (F.ev (x := .tmp 130) rfl))) fun a F => ?_
                      refine ddone (by kernel_rfl) ?_
                      replace F := F.only [131, 17, 6, 7, 8, 9, 11, 13] (l' := [(131, .bool (decide (x91 ≠ x32))), (17, .int .i64 ((IntKind.i64.wrap a2).tmod x30)), (6, .bool false), (7, .bool x1), (8, .pointer (some ⟨g6, 0, none⟩)), (9, .int .i64 x7), (11, .int .i64 x30), (13, .slice A55 x54.length c56)]) rfl
                      by_cases c93 : x91 ≠ x32
                      · rw [if_pos c93] at h
                        rw [decide_eq_true c93] at F
                        refine wp_cond_true (F.ev rfl) ?_
                        refine rg ?_
                        refine as_ F (v := .bool false) rfl fun a F => ?_
                        refine rgend ?_
                        refine wp_ret ?_
                        try dsimp only at h
                        cases h
                        exact RET _ _ (ret1 F rfl rfl ⟨_, rfl, rfl, H.px4.px3.px2.px1.px0.fx0⟩)
                      · rw [if_neg c93] at h
                        rw [decide_eq_false c93] at F
                        refine wp_cond_false (F.ev rfl) ?_
                        refine wp_skip ?_
                        refine wp_seq ?_
                        refine rg ?_
                        refine as_ F (v := .int .i64 0) rfl fun a F => ?_
                        refine rgend ?_
                        obtain ⟨o_96, k_96, h⟩ := Option.bind_eq_some_iff.1 h
                        refine cut (fun a w => ∃ (x96 : lan_Lan), Sum.inl x96 = o_96 ∧ Fr 189 [] [(6, .bool false), (7, .bool x1), (8, .pointer (some ⟨g6, 0, none⟩)), (9, .int .i64 x7), (11, .int .i64 x30)] a ∧ Hp w0 ps (obj_lan_Lan g6 x96 :: fs) w) (wp_block ?_) ?_
                        · refine wloop (law22_LanTakes_b2 a2 x7 x30 x54) (fun (s : Int × lan_Lan) a w => Fr 189 [] [(6, .bool false), (7, .bool x1), (8, .pointer (some ⟨g6, 0, none⟩)), (9, .int .i64 x7), (11, .int .i64 x30), (13, .slice A55 x54.length c56), (17, .int .i64 ((IntKind.i64.wrap a2).tmod x30)), (20, .int .i64 s.1)] a ∧ Hp w0 (rd (kSlice kByte) A55 c56 x54 :: ps) (obj_lan_Lan g6 s.2 :: fs) w) k_96 ⟨F.only [6, 7, 8, 9, 11, 13, 17, 20] rfl, H.px4.px2.px1.px0⟩ ?_
                          rintro ⟨x94, x95⟩ a w q_96 j_96 u_96 ⟨F, H⟩
                          unfold law22_LanTakes_b2 at j_96
                          try dsimp only at j_96 F H
                          refine wp_seq ?_
                          refine rg ?_
                          refine mv F rfl fun a F => ?_
                          refine mv F rfl fun a F => ?_
                          refine ls (qv F (r_sub (F.ev (x := .tmp 133) rfl) (F.ev (x := .const (.int .i64 1)) rfl)) fun a F => ?_)
                          refine ls (qv F (r_lt (F.ev (x := .tmp 132) rfl) (F.ev (x := .tmp 134) rfl)) fun a F => ?_)
                          refine rgend ?_
                          by_cases c98 : x94 < (IntKind.i64.wrap (x30 - 1))
                          · rw [if_pos c98] at j_96
                            rw [decide_eq_true c98] at F
                            refine wp_cond_true (F.ev rfl) ?_
                            refine wp_skip ?_
                            refine wp_seq ?_
                            refine wp_block ?_
                            refine rg ?_
                            refine mv F rfl fun a F => ?_
                            refine mv F rfl fun a F => ?_
                            refine mv F rfl fun a F => ?_
                            obtain ⟨⟨x99, x100, x101⟩, e102, j_96⟩ := Option.bind_eq_some_iff.1 j_96
                            try dsimp only at j_96
                            refine ls (call F Try.func12 (lan_Lan_Copy_ok (H) e102) rfl rfl fun v w hR a F => ?_)
                            obtain ⟨A103, c104, rfl, H⟩ := hR
                            refine mv F rfl fun a F => ?_
                            refine ls (qv F (r_ex (F.ev (x := .tmp 138) rfl) rfl) fun a F => ?_)
                            refine ls (qv F (r_ex (F.ev (x := .tmp 138) rfl) rfl) fun a F => ?_)
                            refine as_ F rfl fun a F => ?_
                            refine as_ F rfl fun a F => ?_
                            refine rgend ?_
                            refine rg ?_
                            refine mv F rfl fun a F => ?_
                            refine mv F rfl fun a F => ?_
                            obtain ⟨c105, j_96⟩ := guardO j_96
                            obtain ⟨g106, o107, s108, hr, H⟩ := H.ix [] 0 rfl (F.ev (x := .tmp 145) rfl) (F.ev (x := .tmp 146) rfl) Try.underlying26 sz35 (by decide) c105.1 c105.2
                            obtain ⟨A109, c110, rfl, H⟩ := H.says_slice 1 rfl
                            refine ls (qv F (hr _ _ _ _ _ _) fun a F => ?_)
                            refine ls (qv F (r_ld (F.ev (x := .tmp 147) rfl) (range_cell (j := 0) (H.range 1 rfl) rfl) one35) fun a F => ?_)
                            refine as_ F rfl fun a F => ?_
                            refine rgend ?_
                            refine wp_seq ?_
                            refine rg ?_
                            refine mv F rfl fun a F => ?_
                            refine mv F rfl fun a F => ?_
                            refine ls (qv F (r_ge (F.ev (x := .tmp 149) rfl) (F.ev (x := .tmp 150) rfl)) fun a F => ?_)
                            refine rgend ?_
                            obtain ⟨o_114, k_114, j_96⟩ := Option.bind_eq_some_iff.1 j_96
                            refine cut (fun a w => ∃ (x111 : List Int) (x114 : Bool), (x111, x114) = o_114 ∧ ∃ (A112 : Option Addr) (c113 : Nat), Fr 189 [] [(6, .bool false), (7, .bool x1), (8, .pointer (some ⟨g6, 0, none⟩)), (9, .int .i64 x7), (11, .int .i64 x30), (13, .slice A55 x54.length c56), (17, .int .i64 ((IntKind.i64.wrap a2).tmod x30)), (20, .int .i64 x94), (21, .slice A103 x99.length c104), (22, .bool x100), (23, .slice A112 x111.length c113), (132, .int .i64 x94), (133, .int .i64 x30), (134, .int .i64 (IntKind.i64.wrap (x30 - 1))), (135, .bool true), (139, .pointer (some ⟨g6, 0, none⟩)), (140, .int .i64 x7), (141, .int .i64 x94), (143, .slice A103 x99.length c104), (144, .bool x100), (145, .slice A55 x54.length c56), (146, .int .i64 x94), (147, .pointer (some ⟨g106, o107, none⟩)), (148, .slice A109 ((x54.getD (x94 : Int).toNat [])).length c110), (149, .int .i64 x94), (150, .int .i64 ((IntKind.i64.wrap a2).tmod x30)), (151, .bool x114)] a ∧ Hp w0 (rd kByte A112 c113 x111 :: rd (kSlice kByte) A55 c56 x54 :: rd kByte A109 c110 ((x54.getD (x94 : Int).toNat [])) :: celz g106 o107 [.slice A109 ((x54.getD (x94 : Int).toNat [])).length c110] :: ps) (own kByte 5 A103 c104 x99 :: obj_lan_Lan g6 x101 :: fs) w) ?_ ?_
                            · skip
                              by_cases c116 : x94 ≥ ((IntKind.i64.wrap a2).tmod x30)
                              · rw [if_pos c116] at k_114
                                rw [decide_eq_true c116] at F
                                refine wp_cond_true (F.ev rfl) ?_
                                refine wp_region_lit ?_
                                refine mv F rfl fun a F => ?_
                                refine mv F rfl fun a F => ?_
                                refine ls (qv F (r_add (F.ev (x := .tmp 153) rfl) (F.ev (x := .const (.int .i64 1)) rfl)) fun a F => ?_)
                                obtain ⟨c117, k_114⟩ := guardO k_114
                                obtain ⟨g118, o119, s120, hr, H⟩ := H.ix [] 3 rfl (F.ev (x := .tmp 152) rfl) (F.ev (x := .tmp 154) rfl) Try.underlying26 sz35 (by decide) c117.1 c117.2
                                obtain ⟨A121, c122, rfl, H⟩ := H.says_slice 1 rfl
                                refine ls (qv F (hr _ _ _ _ _ _) fun a F => ?_)
                                refine ls (qv F (r_ld (F.ev (x := .tmp 155) rfl) (range_cell (j := 0) (H.range 1 rfl) rfl) one35) fun a F => ?_)
                                refine as_ F rfl fun a F => ?_
                                refine wpList_nil ?_
                                try dsimp only at k_114
                                cases k_114
                                exact ⟨_, _, rfl, A121, c122, F.only [6, 7, 8, 9, 11, 13, 17, 20, 21, 22, 23, 132, 133, 134, 135, 139, 140, 141, 143, 144, 145, 146, 147, 148, 149, 150, 151] rfl, H.p4.p4.p8.p3.px4.px4.px4.px4.px4.px4.px4⟩
                              · rw [if_neg c116] at k_114
                                rw [decide_eq_false c116] at F
                                refine wp_cond_false (F.ev rfl) ?_
                                refine wp_skip ?_
                                try dsimp only at k_114
                                cases k_114
                                exact ⟨_, _, rfl, A109, c110, F.only [6, 7, 8, 9, 11, 13, 17, 20, 21, 22, 23, 132, 133, 134, 135, 139, 140, 141, 143, 144, 145, 146, 147, 148, 149, 150, 151] rfl, H.p1.p1.p5.p3.px4.px4.px4.px4⟩
                            · rintro a w ⟨x111, x114, rfl, A112, c113, F, H⟩
                              try dsimp only at j_96 F H
                              refine rg ?_
                              refine mv F rfl fun a F => ?_
                              refine ls (qv F (r_not (F.ev (x := .tmp 157) rfl)) fun a F => ?_)
                              refine mv F rfl fun a F => ?_
                              by_cases c123 : x100 = true
                              · rw [if_pos c123] at j_96
                                rw [c123] at F
                                refine mv F rfl fun a F => ?_
                                replace H := (H).freeze
                                have hb124 := H.bytes 0 rfl
                                refine ls (qv F (H.str 0 rfl (F.ev (x := .tmp 160) rfl) Try.underlying35 Try.underlying5 Try.underlying9) fun a F => ?_)
                                refine mv F rfl fun a F => ?_
                                have hb125 := H.bytes 1 rfl
                                refine ls (qv F (H.str 1 rfl (F.ev (x := .tmp 162) rfl) Try.underlying35 Try.underlying5 Try.underlying9) fun a F => ?_)
                                refine ls (qv F (r_sne (F.ev (x := .tmp 161) rfl) (F.ev (x := .tmp 163) rfl) hb124 hb125) fun a F => ?_)
                                refine ls (qv F (r_pickF (F.ev (x := .tmp 159) rfl) (F.ev (x := .tmp 164) rfl)) fun a F => ?_)
                                refine rgend ?_
                                by_cases c126 : x99 ≠ x111
                                · rw [if_pos c126] at j_96
                                  rw [decide_eq_true c126] at F
                                  refine wp_cond_true (F.ev rfl) ?_
                                  refine rg ?_
                                  refine as_ F (v := .bool false) rfl fun a F => ?_
                                  refine rgend ?_
                                  refine wp_ret ?_
                                  try dsimp only at j_96
                                  cases j_96
                                  cases u_96 _ rfl
                                  try dsimp only at h
                                  cases h
                                  exact RET _ _ (ret1 F rfl rfl ⟨_, rfl, rfl, H.px4.px3.px2.px1.px0.fx0⟩)
                                · rw [if_neg c126] at j_96
                                  rw [decide_eq_false c126] at F
                                  refine wp_cond_false (F.ev rfl) ?_
                                  refine wp_skip ?_
                                  refine wp_region_lit ?_
                                  refine mv F rfl fun a F => ?_
                                  refine ls (qv F (r_add (F.ev (x := .tmp 136) rfl) (F.ev (x := .const (.int .i64 1)) rfl)) fun a F => ?_)
                                  refine as_ F rfl fun a F => ?_
                                  refine wpList_nil ?_
                                  try dsimp only at j_96
                                  cases j_96
                                  exact ⟨_, rfl, F.only [6, 7, 8, 9, 11, 13, 17, 20] rfl, H.px4.px3.px1.px0⟩
                              · rw [if_neg c123] at j_96
                                rw [Bool.eq_false_iff.2 c123] at F
                                refine ls (off F fun a F => ?_)
                                refine ls (off F fun a F => ?_)
                                refine ls (off F fun a F => ?_)
                                refine ls (off F fun a F => ?_)
                                refine ls (off F fun a F => ?_)
                                refine ls (qv F (r_pickT (F.ev (x := .tmp 159) rfl) (F.ev (x := .const (.bool true)) rfl)) fun a F => ?_)
                                refine rgend ?_
                                refine wp_cond_true (F.ev rfl) ?_
                                refine rg ?_
                                refine as_ F (v := .bool false) rfl fun a F => ?_
                                refine rgend ?_
                                refine wp_ret ?_
                                try dsimp only at j_96
                                cases j_96
                                cases u_96 _ rfl
                                try dsimp only at h
                                cases h
                                exact RET _ _ (ret1 F rfl rfl ⟨_, rfl, rfl, H.px3.px2.px1.px0.fx1.fx0⟩)
                          · rw [if_neg c98] at j_96
                            rw [decide_eq_false c98] at F
                            refine wp_cond_false (F.ev rfl) ?_
                            refine wp_exit ?_
                            try dsimp only at j_96
                            cases j_96
                            cases u_96 _ rfl
                            repeat (with_reducible refine exT ?_)
                            with_reducible refine exB ?_
                            exact ⟨_, rfl, F.only [6, 7, 8, 9, 11] rfl, H.px0⟩
                        · rintro a w ⟨x96, rfl, F, H⟩
                          try dsimp only at h F H
                          refine rg ?_
                          refine mv F rfl fun a F => ?_
                          refine mv F rfl fun a F => ?_
                          refine mv F rfl fun a F => ?_
                          refine ls (qv F (r_sub (F.ev (x := .tmp 169) rfl) (F.ev (x := .const (.int .i64 1)) rfl)) fun a F => ?_)
                          obtain ⟨⟨x127, x128, x129⟩, e130, h⟩ := Option.bind_eq_some_iff.1 h
                          try dsimp only at h
                          refine ls (call F Try.func10 (lan_Lan_Take_ok (H) e130) rfl rfl fun v w hR a F => ?_)
                          obtain ⟨A131, c132, rfl, H⟩ := hR
                          refine mv F rfl fun a F => ?_
                          refine ls (qv F (r_ex (F.ev (x := .tmp 166) rfl) rfl) fun a F => ?_)
                          refine ls (qv F (r_ex (F.ev (x := .tmp 166) rfl) rfl) fun a F => ?_)
                          refine as_ F rfl fun a F => ?_
                          refine as_ F rfl fun a F => ?_
                          refine rgend ?_
                          replace F := F.only [25, 6, 7, 8, 9] (l' := [(25, .bool x128), (6, .bool false), (7, .bool x1), (8, .pointer (some ⟨g6, 0, none⟩)), (9, .int .i64 x7)]) rfl
                          refine rg ?_
                          refine mv F rfl fun a F => ?_
                          refine mv F rfl fun a F => ?_
                          obtain ⟨⟨x133, x134, x135⟩, e136, h⟩ := Option.bind_eq_some_iff.1 h
                          try dsimp only at h
                          refine ls (call F Try.func12 (lan_Lan_Copy_ok (H.f1) e136) rfl rfl fun v w hR a F => ?_)
                          obtain ⟨A137, c138, rfl, H⟩ := hR
                          refine mv F rfl fun a F => ?_
                          refine ls (qv F (r_ex (F.ev (x := .tmp 174) rfl) rfl) fun a F => ?_)
                          refine ls (qv F (r_ex (F.ev (x := .tmp 174) rfl) rfl) fun a F => ?_)
                          refine as_ F rfl fun a F => ?_
                          refine as_ F rfl fun a F => ?_
                          refine rgend ?_
                          replace F := F.only [27, 25, 6, 7] (l' := [(27, .bool x134), (25, .bool x128), (6, .bool false), (7, .bool x1)]) rfl
                          refine wp_seq ?_
                          obtain ⟨o_139, k_139, h⟩ := Option.bind_eq_some_iff.1 h
                          refine cut (fun a w => ∃ (x139 : Bool), x139 = o_139 ∧ Fr 189 [] [(6, .bool x139)] a ∧ Hp w0 ps (obj_lan_Lan g6 x135 :: fs) w) ?_ ?_
                          · skip
                            refine wp_region_lit ?_
                            refine mv F rfl fun a F => ?_
                            refine mv F rfl fun a F => ?_
                            by_cases c141 : x1 = true
                            · rw [if_pos c141] at k_139
                              rw [c141] at F
                              refine mv F rfl fun a F => ?_
                              refine ls (qv F (r_not (F.ev (x := .tmp 182) rfl)) fun a F => ?_)
                              refine ls (qv F (r_pickT (F.ev (x := .tmp 181) rfl) (F.ev (x := .tmp 183) rfl)) fun a F => ?_)
                              refine mv F rfl fun a F => ?_
                              by_cases c142 : x128 = true
                              · rw [if_pos c142] at k_139
                                rw [c142] at F
                                refine ls (off F fun a F => ?_)
                                refine ls (off F fun a F => ?_)
                                refine ls (qv F (r_pickF (F.ev (x := .tmp 185) rfl) (F.ev (x := .const (.bool false)) rfl)) fun a F => ?_)
                                refine as_ F rfl fun a F => ?_
                                refine wpList_nil ?_
                                replace F := F.only [6] (l' := [(6, .bool false)]) rfl
                                try dsimp only at k_139
                                cases k_139
                                exact ⟨_, rfl, F.only [6] rfl, H.fx2.fx0⟩
                              · rw [if_neg c142] at k_139
                                rw [Bool.eq_false_iff.2 c142] at F
                                refine mv F rfl fun a F => ?_
                                refine ls (qv F (r_not (F.ev (x := .tmp 186) rfl)) fun a F => ?_)
                                refine ls (qv F (r_pickT (F.ev (x := .tmp 185) rfl) (F.ev (x := .tmp 187) rfl)) fun a F => ?_)
                                refine as_ F rfl fun a F => ?_
                                refine wpList_nil ?_
                                replace F := F.only [6] (l' := [(6, .bool (!x134))]) rfl
                                try dsimp only at k_139
                                cases k_139
                                exact ⟨_, rfl, F.only [6] rfl, H.fx2.fx0⟩
                            · rw [if_neg c141] at k_139
                              rw [Bool.eq_false_iff.2 c141] at F
                              refine ls (off F fun a F => ?_)
                              refine ls (off F fun a F => ?_)
                              refine ls (qv F (r_pickF (F.ev (x := .tmp 181) rfl) (F.ev (x := .const (.bool false)) rfl)) fun a F => ?_)
                              refine mv F rfl fun a F => ?_
                              refine ls (off F fun a F => ?_)
                              refine ls (off F fun a F => ?_)
                              refine ls (qv F (r_pickF (F.ev (x := .tmp 185) rfl) (F.ev (x := .const (.bool false)) rfl)) fun a F => ?_)
                              refine as_ F rfl fun a F => ?_
                              refine wpList_nil ?_
                              replace F := F.only [6] (l' := [(6, .bool false)]) rfl
                              try dsimp only at k_139
                              cases k_139
                              exact ⟨_, rfl, F.only [6] rfl, H.fx2.fx0⟩
                          · rintro a w ⟨x139, rfl, F, H⟩
                            try dsimp only at h F H
                            refine wp_ret ?_
                            try dsimp only at h
                            cases h
                            exact RET _ _ (ret1 F rfl rfl ⟨_, rfl, rfl, H.fx0⟩)
                · rw [if_neg c78] at h
                  rw [Bool.eq_false_iff.2 c78] at F
                  refine doff 3 F rfl (by kernel_rfl) NP HS fun a F => ?_
                  refine doff 4 F rfl (by kernel_rfl) NP HS fun a F => ?_
                  refine doff 5 F rfl (by kernel_rfl) NP HS fun a F => ?_
                  refine doff 6 F rfl (by kernel_rfl) NP HS fun a F => ?_
                  refine doff 7 F rfl (by kernel_rfl) NP HS fun a F => ?_
                  refine doff 8 F rfl (by kernel_rfl) NP HS fun a F => ?_
                  refine doff 9 F rfl (by kernel_rfl) NP HS fun a F => ?_
                  refine doff 10 F rfl (by kernel_rfl) NP HS fun a F => ?_
                  refine dq 11 F rfl (by kernel_rfl) NP HS (fun w S => (r_pickT (F.ev (x := .tmp 106) rfl) (F.ev (x := .const (.bool true)) rfl))) fun a F => ?_
                  refine dq 12 F rfl (by kernel_rfl) NP HS (fun w S => (r_mv (F.ev (x := .tmp 115) rfl))) fun a F => ?_
                  refine doff 13 F rfl (by kernel_rfl) NP HS fun a F => ?_
                  refine doff 14 F rfl (by kernel_rfl) NP HS fun a F => ?_
                  refine doff 15 F rfl (by kernel_rfl) NP HS fun a F => ?_
                  refine doff 16 F rfl (by kernel_rfl) NP HS fun a F => ?_
                  refine doff 17 F rfl (by kernel_rfl) NP HS fun a F => ?_
                  refine doff 18 F rfl (by kernel_rfl) NP HS fun a F => ?_
                  refine dq 19 F rfl (by kernel_rfl) NP HS (fun w S => (r_pickT (F.ev (x := .tmp 116) rfl) (F.ev (x := .const (.bool true)) rfl))) fun a F => ?_
                  refine dq 20 F rfl (by kernel_rfl) NP HS (fun w S => (r_mv (F.ev (x := .tmp 123) rfl))) fun a F => ?_
                  refine doff 21 F rfl (by kernel_rfl) NP HS fun a F => ?_
                  refine doff 22 F rfl (by kernel_rfl) NP HS fun a F => ?_
                  refine doff 23 F rfl (by kernel_rfl) NP HS fun a F => ?_
                  refine doff 24 F rfl (by kernel_rfl) NP HS fun a F => ?_
                  refine doff 25 F rfl (by kernel_rfl) NP HS fun a F => ?_
                  refine doff 26 F rfl (by kernel_rfl) NP HS fun a F => ?_
                  refine dq 27 F rfl (by kernel_rfl) NP HS (fun w S => (r_pickT (F.ev (x := .tmp 124) rfl) (F.ev (x := .const (.bool true)) rfl))) fun a F => ?_
                  refine ddone (by kernel_rfl) ?_
                  replace F := F.only [131, 17, 6, 7, 8, 9, 11, 13] (l' := [(131, .bool true), (17, .int .i64 ((IntKind.i64.wrap a2).tmod x30)), (6, .bool false), (7, .bool x1), (8, .pointer (some ⟨g6, 0, none⟩)), (9, .int .i64 x7), (11, .int .i64 x30), (13, .slice A55 x54.length c56)]) rfl
                  refine wp_cond_true (F.ev rfl) ?_
                  refine rg ?_
                  refine as_ F (v := .bool false) rfl fun a F => ?_
                  refine rgend ?_
                  refine wp_ret ?_
                  try dsimp only at h
                  cases h
                  exact RET _ _ (ret1 F rfl rfl ⟨_, rfl, rfl, H.fx2.fx1.fx0⟩)
end Go.Proofs.Ytflkagoglhckoaa
