/- What the functions compute. Printed by wip/gen. -/
import Derived.Test.YtflkagoglhckoaaGL
set_option linter.unusedVariables false
set_option linter.unusedSimpArgs false
namespace Go.Proofs.Ytflkagoglhckoaa
open Go Go.RowKit
def law22_LanOrder_b0 (a0 : List law22_Op) (x7 : Int) : ((List (List Int)) × Int × lan_Lan) → Option ((List (List Int)) × Int × lan_Lan ⊕ (((List (List Int)) × lan_Lan) ⊕ Bool))
  | (x10, x13, x14) => (if x13 < (a0.length : Int) then (if 0 ≤ x13 ∧ x13 < (a0.length : Int) then (if 0 ≤ x13 ∧ x13 < (a0.length : Int) then (if 0 ≤ x13 ∧ x13 < (a0.length : Int) then ((lan_Lan_Put_f x14 ((a0.getD (x13 : Int).toNat (⟨0, 0, 0, []⟩ : law22_Op)).To) ((a0.getD (x13 : Int).toNat (⟨0, 0, 0, []⟩ : law22_Op)).B)).bind fun (x39, x40) => (if ((a0.getD (x13 : Int).toNat (⟨0, 0, 0, []⟩ : law22_Op)).To) = 0 then (if (x39 != true) = true then some (.inr (.inr false)) else (if 0 ≤ x13 ∧ x13 < (a0.length : Int) then ((if ((a0.getD (x13 : Int).toNat (⟨0, 0, 0, []⟩ : law22_Op)).To) = x7 then (if 0 ≤ x13 ∧ x13 < (a0.length : Int) then (if (x10.length + 1) * 24 ≤ 140737488355328 then some ((x10 ++ ([(a0.getD (x13 : Int).toNat (⟨0, 0, 0, []⟩ : law22_Op)).B])), true) else none) else none) else some (x10, false)).bind fun (x50, x53) => some (.inl (x50, IntKind.i64.wrap (x13 + 1), x40))) else none)) else (if 0 ≤ x13 ∧ x13 < (a0.length : Int) then (if ((x39 != (decide (((a0.getD (x13 : Int).toNat (⟨0, 0, 0, []⟩ : law22_Op)).To) = 1)))) = true then some (.inr (.inr false)) else (if 0 ≤ x13 ∧ x13 < (a0.length : Int) then ((if ((a0.getD (x13 : Int).toNat (⟨0, 0, 0, []⟩ : law22_Op)).To) = x7 then (if 0 ≤ x13 ∧ x13 < (a0.length : Int) then (if (x10.length + 1) * 24 ≤ 140737488355328 then some ((x10 ++ ([(a0.getD (x13 : Int).toNat (⟨0, 0, 0, []⟩ : law22_Op)).B])), true) else none) else none) else some (x10, false)).bind fun (x79, x82) => some (.inl (x79, IntKind.i64.wrap (x13 + 1), x40))) else none)) else none))) else none) else none) else none) else some (.inr (.inl (x10, x14))))
def law22_LanOrder_b1 (x7 : Int) (x15 : List (List Int)) : ((List (List Int)) × Int × lan_Lan) → Option ((List (List Int)) × Int × lan_Lan ⊕ (((List (List Int)) × lan_Lan) ⊕ Bool))
  | (x95, x98, x99) => (if x98 < (x15.length : Int) then ((lan_Lan_Take_f x99 x7 0).bind fun (x106, x107, x108) => (if x107 = true then (if (x95.length + 1) * 24 ≤ 140737488355328 then some (.inl ((x95 ++ ([x106])), IntKind.i64.wrap (x98 + 1), x108)) else none) else some (.inr (.inr false)))) else some (.inr (.inl (x95, x99))))
def law22_LanOrder_f (a0 : List law22_Op) (a1 : Bool) : Option (Bool) :=
  ((law22_head_f).bind fun x1 => ((law22_great_f a0).bind fun x3 => (if x3 = true then some x1 else ((if a1 = true then some 1 else some 0).bind fun x7 => ((lp (law22_LanOrder_b0 a0 x7) ([], 0, (⟨(⟨[]⟩, ⟨[]⟩)⟩ : lan_Lan))).bind fun q => match q with | .inl (x15, x18) => ((lp (law22_LanOrder_b1 x7 x15) ([], 0, x18)).bind fun q => match q with | .inl (x100, x103) => ((lan_Lan_Take_f x103 x7 0).bind fun (x117, x118, x119) => ((if x1 = true then ((ref17_SameRows_f x100 x15).bind fun x126 => (if x126 = true then (if x118 = true then some false else ((lan_Lan_Many_f x119 x7).bind fun x130 => some ((decide (x130 = 0))))) else some false)) else some false).bind fun x123 => some x123)) | .inr r => some r) | .inr r => some r)))))
set_option maxHeartbeats 4000000 in
set_option maxRecDepth 20000 in
theorem law22_LanOrder_ok {w0 w : World} {ps : List PF} {fs : List SF} {a0 : List law22_Op} {A0_ : Option Addr} {c0_ : Nat} {a1 : Bool} {r0 : Bool} (H : Hp w0 (rd k_law22_Op A0_ c0_ a0 :: ps) fs w) (h : law22_LanOrder_f a0 a1 = some r0) :
    Calls Try.prog 4 [.slice A0_ a0.length c0_, .bool a1].toArray w fun e w' => ∃ v, e = .returned v ∧ v = .bool r0 ∧ Hp w0 ps fs w' := by
  refine enter [.slice A0_ a0.length c0_, .bool a1] 111 Try.func4 fun Q a NP RET NRM F => ?_
  replace NP : ∀ c a w, ¬ Q (.panic c) a w := fun c a w h => by rcases NP c a w h with h | ⟨w, v, h, _⟩ <;> cases h
  unfold law22_LanOrder_f at h
  refine rg ?_
  refine as_ F (v := .bool false) rfl fun a F => ?_
  refine rgend ?_
  refine rg ?_
  obtain ⟨x1, e2, h⟩ := Option.bind_eq_some_iff.1 h
  try dsimp only at h
  refine ls (call F Try.func8 (law22_head_ok (H) e2) rfl rfl fun v w hR a F => ?_)
  obtain ⟨rfl, H⟩ := hR
  refine as_ F rfl fun a F => ?_
  refine rgend ?_
  refine wp_seq ?_
  refine rg ?_
  refine mv F rfl fun a F => ?_
  obtain ⟨x3, e4, h⟩ := Option.bind_eq_some_iff.1 h
  try dsimp only at h
  refine ls (call F Try.func9 (law22_great_ok (H.p0) e4) rfl rfl fun v w hR a F => ?_)
  obtain ⟨rfl, H⟩ := hR
  refine rgend ?_
  by_cases c5 : x3 = true
  · rw [if_pos c5] at h
    rw [c5] at F
    refine wp_cond_true (F.ev rfl) ?_
    refine rg ?_
    refine mv F rfl fun a F => ?_
    refine as_ F rfl fun a F => ?_
    refine rgend ?_
    replace F := F.only [4, 5, 0, 1] (l' := [(4, .bool x1), (5, .bool x1), (0, .slice A0_ a0.length c0_), (1, .bool a1)]) rfl
    refine wp_ret ?_
    try dsimp only at h
    cases h
    exact RET _ _ (ret1 F rfl rfl ⟨_, rfl, rfl, H.px0⟩)
  · rw [if_neg c5] at h
    rw [Bool.eq_false_iff.2 c5] at F
    refine wp_cond_false (F.ev rfl) ?_
    refine wp_skip ?_
    refine rg ?_
    refine ls (lbd F (vs := []) (cs := [.slice none 0 0, .slice none 0 0]) rfl (fun w => by kernel_rfl) fun a F => ?_)
    refine ls (lbox F H rfl (cs := [.slice none 0 0, .slice none 0 0]) rfl fun g6 w a H F => ?_)
    refine as_ F rfl fun a F => ?_
    refine rgend ?_
    replace F := F.only [6, 5, 4, 0, 1] (l' := [(6, .pointer (some ⟨g6, 0, none⟩)), (5, .bool x1), (4, .bool false), (0, .slice A0_ a0.length c0_), (1, .bool a1)]) rfl
    refine rg ?_
    refine as_ F (v := .int .i64 0) rfl fun a F => ?_
    refine rgend ?_
    refine wp_seq ?_
    refine rg ?_
    refine mv F rfl fun a F => ?_
    refine rgend ?_
    obtain ⟨o_7, k_7, h⟩ := Option.bind_eq_some_iff.1 h
    refine cut (fun a w => ∃ (x7 : Int), x7 = o_7 ∧ Fr 111 [] [(0, .slice A0_ a0.length c0_), (4, .bool false), (5, .bool x1), (6, .pointer (some ⟨g6, 0, none⟩)), (7, .int .i64 x7)] a ∧ Hp w0 (rd k_law22_Op A0_ c0_ a0 :: ps) (obj_lan_Lan g6 ((⟨(⟨[]⟩, ⟨[]⟩)⟩ : lan_Lan)) :: fs) w) ?_ ?_
    · skip
      by_cases c9 : a1 = true
      · rw [if_pos c9] at k_7
        rw [c9] at F
        refine wp_cond_true (F.ev rfl) ?_
        refine wp_region_lit ?_
        refine as_ F (v := .int .i64 1) rfl fun a F => ?_
        refine wpList_nil ?_
        replace H := H.nilOwn (kSlice kByte) 35
        replace H := H.nilOwn (kSlice kByte) 35
        replace H := Hp.closeO_lan_Lan (x := (⟨(⟨[]⟩, ⟨[]⟩)⟩ : lan_Lan)) (H.f1.f1.f2)
        try dsimp only at k_7
        cases k_7
        exact ⟨_, rfl, F.only [0, 4, 5, 6, 7] rfl, H⟩
      · rw [if_neg c9] at k_7
        rw [Bool.eq_false_iff.2 c9] at F
        refine wp_cond_false (F.ev rfl) ?_
        refine wp_skip ?_
        replace H := H.nilOwn (kSlice kByte) 35
        replace H := H.nilOwn (kSlice kByte) 35
        replace H := Hp.closeO_lan_Lan (x := (⟨(⟨[]⟩, ⟨[]⟩)⟩ : lan_Lan)) (H.f1.f1.f2)
        try dsimp only at k_7
        cases k_7
        exact ⟨_, rfl, F.only [0, 4, 5, 6, 7] rfl, H⟩
    · rintro a w ⟨x7, rfl, F, H⟩
      try dsimp only at h F H
      refine rg ?_
      refine as_ F (v := .slice none 0 0) rfl fun a F => ?_
      refine rgend ?_
      refine wp_seq ?_
      refine rg ?_
      refine as_ F (v := .int .i64 0) rfl fun a F => ?_
      refine rgend ?_
      replace H := H.nilOwn (kSlice kByte) 35
      obtain ⟨o_18, k_18, h⟩ := Option.bind_eq_some_iff.1 h
      refine cut (fun a w => ∃ (x15 : List (List Int)) (x18 : lan_Lan), Sum.inl (x15, x18) = o_18 ∧ ∃ (A16 : Option Addr) (c17 : Nat), Fr 111 [] [(4, .bool false), (5, .bool x1), (6, .pointer (some ⟨g6, 0, none⟩)), (7, .int .i64 x7), (8, .slice A16 x15.length c17)] a ∧ Hp w0 ps (own (kSlice kByte) 35 A16 c17 x15 :: obj_lan_Lan g6 x18 :: fs) w) (wp_block ?_) ?_
      · refine wloop (law22_LanOrder_b0 a0 x7) (fun (s : (List (List Int)) × Int × lan_Lan) a w => ∃ (A11 : Option Addr) (c12 : Nat), Fr 111 [] [(0, .slice A0_ a0.length c0_), (4, .bool false), (5, .bool x1), (6, .pointer (some ⟨g6, 0, none⟩)), (7, .int .i64 x7), (8, .slice A11 s.1.length c12), (9, .int .i64 s.2.1)] a ∧ Hp w0 (rd k_law22_Op A0_ c0_ a0 :: ps) (own (kSlice kByte) 35 A11 c12 s.1 :: obj_lan_Lan g6 s.2.2 :: fs) w) k_18 ⟨none, 0, F.only [0, 4, 5, 6, 7, 8, 9] rfl, H⟩ ?_
        rintro ⟨x10, x13, x14⟩ a w q_18 j_18 u_18 ⟨A11, c12, F, H⟩
        unfold law22_LanOrder_b0 at j_18
        try dsimp only at j_18 F H
        refine wp_seq ?_
        refine rg ?_
        refine mv F rfl fun a F => ?_
        refine mv F rfl fun a F => ?_
        refine ls (qv F (r_len (F.ev (x := .tmp 24) rfl) Try.underlying22) fun a F => ?_)
        refine ls (qv F (r_lt (F.ev (x := .tmp 23) rfl) (F.ev (x := .tmp 25) rfl)) fun a F => ?_)
        refine rgend ?_
        by_cases c20 : x13 < (a0.length : Int)
        · rw [if_pos c20] at j_18
          rw [decide_eq_true c20] at F
          refine wp_cond_true (F.ev rfl) ?_
          refine wp_skip ?_
          refine wp_seq ?_
          refine wp_block ?_
          refine wp_seq ?_
          refine wp_seq ?_
          replace H := H.drew
          have HS := H.fx1.fx0
          refine dr (fun w => Hp w0 (rd k_law22_Op A0_ c0_ a0 :: ps) fs w) _ (by kernel_rfl) ?_ (n := 27)
          refine dq 0 F rfl (by kernel_rfl) NP HS (fun w S => (r_mv (F.ev (x := .tmp 6) rfl))) fun a F => ?_
          refine dq 1 F rfl (by kernel_rfl) NP HS (fun w S => (r_mv (F.ev (x := .tmp 0) rfl))) fun a F => ?_
          refine dq 2 F rfl (by kernel_rfl) NP HS (fun w S => (r_mv (F.ev (x := .tmp 9) rfl))) fun a F => ?_
          obtain ⟨c21, j_18⟩ := guardO j_18
          obtain ⟨g22, o23, s24, hr, H⟩ := H.ix (⟨0, 0, 0, []⟩ : law22_Op) 0 rfl (F.ev (x := .tmp 30) rfl) (F.ev (x := .tmp 31) rfl) Try.underlying22 sz37 (by decide) c21.1 c21.2
          obtain ⟨A25, c26, rfl, H⟩ := H.open_law22_Op 1 rfl
          have HS := H.fx1.fx0
          refine dmoreH HS (fun w S => S.px2.px1.px0) ?_
          refine dq 3 F rfl (by kernel_rfl) NP HS (fun w S => (hr _ _ _ _ _ _)) fun a F => ?_
          refine dq 4 F rfl (by kernel_rfl) NP HS (fun w S => (r_fa (off := 1) (F.ev (x := .tmp 32) rfl) fa37_1)) fun a F => ?_
          refine dq 5 F rfl (by kernel_rfl) NP HS (fun w S => (r_ld (F.ev (x := .tmp 33) rfl) (range_cell (j := 1) (S.range 1 rfl) rfl) one3)) fun a F => ?_
          refine dq 6 F rfl (by kernel_rfl) NP HS (fun w S => (r_mv (F.ev (x := .tmp 0) rfl))) fun a F => ?_
          refine dq 7 F rfl (by kernel_rfl) NP HS (fun w S => (r_mv (F.ev (x := .tmp 9) rfl))) fun a F => ?_
          obtain ⟨c27, j_18⟩ := guardO j_18
          obtain ⟨g28, o29, s30, hr, H⟩ := H.ix (⟨0, 0, 0, []⟩ : law22_Op) 3 rfl (F.ev (x := .tmp 35) rfl) (F.ev (x := .tmp 36) rfl) Try.underlying22 sz37 (by decide) c27.1 c27.2
          obtain ⟨A31, c32, rfl, H⟩ := H.open_law22_Op 1 rfl
          have HS := H.fx1.fx0
          refine dmoreH HS (fun w S => S.px2.px1.px0) ?_
          refine dq 8 F rfl (by kernel_rfl) NP HS (fun w S => (hr _ _ _ _ _ _)) fun a F => ?_
          refine dq 9 F rfl (by kernel_rfl) NP HS (fun w S => (r_fa (off := 3) (F.ev (x := .tmp 37) rfl) fa37_3)) fun a F => ?_
          refine dq 10 F rfl (by kernel_rfl) NP HS (fun w S => (r_ld (F.ev (x := .tmp 38) rfl) (range_cell (j := 3) (S.range 1 rfl) rfl) one35)) fun a F => ?_
          refine dq 12 F rfl (by kernel_rfl) NP HS (fun w S => (r_mv (F.ev (x := .tmp 0) rfl))) fun a F => ?_
          refine dq 13 F rfl (by kernel_rfl) NP HS (fun w S => (r_mv (F.ev (x := .tmp 9) rfl))) fun a F => ?_
          obtain ⟨c33, j_18⟩ := guardO j_18
          obtain ⟨g34, o35, s36, hr, H⟩ := H.ix (⟨0, 0, 0, []⟩ : law22_Op) 6 rfl (F.ev (x := .tmp 41) rfl) (F.ev (x := .tmp 42) rfl) Try.underlying22 sz37 (by decide) c33.1 c33.2
          obtain ⟨A37, c38, rfl, H⟩ := H.open_law22_Op 1 rfl
          have HS := H.fx1.fx0
          refine dmoreH HS (fun w S => S.px2.px1.px0) ?_
          refine dq 14 F rfl (by kernel_rfl) NP HS (fun w S => (hr _ _ _ _ _ _)) fun a F => ?_
          refine dq 15 F rfl (by kernel_rfl) NP HS (fun w S => (r_fa (off := 1) (F.ev (x := .tmp 43) rfl) fa37_1)) fun a F => ?_
          refine dq 16 F rfl (by kernel_rfl) NP HS (fun w S => (r_ld (F.ev (x := .tmp 44) rfl) (range_cell (j := 1) (S.range 1 rfl) rfl) one3)) fun a F => ?_
          refine dq 17 F rfl (by kernel_rfl) NP HS (fun w S => (r_eq (F.ev (x := .tmp 45) rfl) (F.ev (x := .const (.int .i64 0)) rfl))) fun a F => ?_
          obtain ⟨⟨x39, x40⟩, e41, j_18⟩ := Option.bind_eq_some_iff.1 j_18
          try dsimp only at j_18
          refine d1 11 rfl (by kernel_rfl) (call F Try.func14 (lan_Lan_Put_ok (H.p3.f1) e41) rfl rfl fun v w hR a F => ?_)
          obtain ⟨rfl, H⟩ := hR
          have HS := H.fx1.fx0
          refine kg _ HS (fun w S => S) ?_
          refine dq 18 F rfl (by kernel_rfl) NP HS (fun w S => (r_mv (F.ev (x := .tmp 46) rfl))) fun a F => ?_
          by_cases c42 : ((a0.getD (x13 : Int).toNat (⟨0, 0, 0, []⟩ : law22_Op)).To) = 0
          · rw [if_pos c42] at j_18
            rw [decide_eq_true c42] at F
            refine doff 19 F rfl (by kernel_rfl) NP HS fun a F => ?_
            refine doff 20 F rfl (by kernel_rfl) NP HS fun a F => ?_
            refine doff 21 F rfl (by kernel_rfl) NP HS fun a F => ?_
            refine doff 22 F rfl (by kernel_rfl) NP HS fun a F => ?_
            refine doff 23 F rfl (by kernel_rfl) NP HS fun a F => ?_
            refine doff 24 F rfl (by kernel_rfl) NP HS fun a F => ?_
            refine dq 25 F rfl (by kernel_rfl) NP HS (fun w S => (r_pickT (F.ev (x := .tmp 47) rfl) (F.ev (x := .const (.bool true)) rfl))) fun a F => ?_
            refine dq 26 F rfl (by kernel_rfl) NP HS (fun w S => (r_bne (F.ev (x := .tmp 40) rfl) (F.ev (x := .tmp 54) rfl) Try.underlying4)) fun a F => ?_
            refine ddone (by kernel_rfl) ?_
            by_cases c43 : (x39 != true) = true
            · rw [if_pos c43] at j_18
              rw [c43] at F
              refine wp_cond_true (F.ev rfl) ?_
              refine rg ?_
              refine as_ F (v := .bool false) rfl fun a F => ?_
              refine rgend ?_
              refine wp_ret ?_
              try dsimp only at j_18
              cases j_18
              cases u_18 _ rfl
              try dsimp only at h
              cases h
              exact RET _ _ (ret1 F rfl rfl ⟨_, rfl, rfl, H.px9.px8.px7.px6.px5.px4.px3.px2.px1.px0.fx1.fx0⟩)
            · rw [if_neg c43] at j_18
              rw [Bool.eq_false_iff.2 c43] at F
              refine wp_cond_false (F.ev rfl) ?_
              refine wp_skip ?_
              refine rg ?_
              refine mv F rfl fun a F => ?_
              refine mv F rfl fun a F => ?_
              obtain ⟨c44, j_18⟩ := guardO j_18
              obtain ⟨g45, o46, s47, hr, H⟩ := H.ix (⟨0, 0, 0, []⟩ : law22_Op) 9 rfl (F.ev (x := .tmp 56) rfl) (F.ev (x := .tmp 57) rfl) Try.underlying22 sz37 (by decide) c44.1 c44.2
              obtain ⟨A48, c49, rfl, H⟩ := H.open_law22_Op 1 rfl
              refine ls (qv F (hr _ _ _ _ _ _) fun a F => ?_)
              refine ls (qv F (r_fa (off := 1) (F.ev (x := .tmp 58) rfl) fa37_1) fun a F => ?_)
              refine ls (qv F (r_ld (F.ev (x := .tmp 59) rfl) (range_cell (j := 1) (H.range 1 rfl) rfl) one3) fun a F => ?_)
              refine mv F rfl fun a F => ?_
              refine ls (qv F (r_eq (F.ev (x := .tmp 60) rfl) (F.ev (x := .tmp 61) rfl)) fun a F => ?_)
              refine rgend ?_
              obtain ⟨o_53, k_53, j_18⟩ := Option.bind_eq_some_iff.1 j_18
              refine cut (fun a w => ∃ (x50 : List (List Int)) (x53 : Bool), (x50, x53) = o_53 ∧ ∃ (A51 : Option Addr) (c52 : Nat), Fr 111 [] [(0, .slice A0_ a0.length c0_), (4, .bool false), (5, .bool x1), (6, .pointer (some ⟨g6, 0, none⟩)), (7, .int .i64 x7), (8, .slice A51 x50.length c52), (9, .int .i64 x13), (23, .int .i64 x13), (24, .slice A0_ a0.length c0_), (25, .int .i64 (a0.length : Int)), (26, .bool true), (29, .pointer (some ⟨g6, 0, none⟩)), (30, .slice A0_ a0.length c0_), (31, .int .i64 x13), (32, .pointer (some ⟨g22, o23, none⟩)), (33, .pointer (some ⟨g22, o23 + 1, none⟩)), (34, .int .i64 ((a0.getD (x13 : Int).toNat (⟨0, 0, 0, []⟩ : law22_Op)).To)), (35, .slice A0_ a0.length c0_), (36, .int .i64 x13), (37, .pointer (some ⟨g28, o29, none⟩)), (38, .pointer (some ⟨g28, o29 + 3, none⟩)), (39, .slice A31 ((a0.getD (x13 : Int).toNat (⟨0, 0, 0, []⟩ : law22_Op)).B).length c32), (40, .bool x39), (41, .slice A0_ a0.length c0_), (42, .int .i64 x13), (43, .pointer (some ⟨g34, o35, none⟩)), (44, .pointer (some ⟨g34, o35 + 1, none⟩)), (45, .int .i64 ((a0.getD (x13 : Int).toNat (⟨0, 0, 0, []⟩ : law22_Op)).To)), (46, .bool true), (47, .bool true), (54, .bool true), (55, .bool false), (56, .slice A0_ a0.length c0_), (57, .int .i64 x13), (58, .pointer (some ⟨g45, o46, none⟩)), (59, .pointer (some ⟨g45, o46 + 1, none⟩)), (60, .int .i64 ((a0.getD (x13 : Int).toNat (⟨0, 0, 0, []⟩ : law22_Op)).To)), (61, .int .i64 x7), (62, .bool x53)] a ∧ Hp w0 (rd k_law22_Op A0_ c0_ a0 :: rd kByte A31 c32 ((a0.getD (x13 : Int).toNat (⟨0, 0, 0, []⟩ : law22_Op)).B) :: celz g34 o35 [.int .i64 ((a0.getD (x13 : Int).toNat (⟨0, 0, 0, []⟩ : law22_Op)).What), .int .i64 ((a0.getD (x13 : Int).toNat (⟨0, 0, 0, []⟩ : law22_Op)).To), .int .i64 ((a0.getD (x13 : Int).toNat (⟨0, 0, 0, []⟩ : law22_Op)).I), .slice A37 ((a0.getD (x13 : Int).toNat (⟨0, 0, 0, []⟩ : law22_Op)).B).length c38] :: celz g45 o46 [.int .i64 ((a0.getD (x13 : Int).toNat (⟨0, 0, 0, []⟩ : law22_Op)).What), .int .i64 ((a0.getD (x13 : Int).toNat (⟨0, 0, 0, []⟩ : law22_Op)).To), .int .i64 ((a0.getD (x13 : Int).toNat (⟨0, 0, 0, []⟩ : law22_Op)).I), .slice A48 ((a0.getD (x13 : Int).toNat (⟨0, 0, 0, []⟩ : law22_Op)).B).length c49] :: celz g22 o23 [.int .i64 ((a0.getD (x13 : Int).toNat (⟨0, 0, 0, []⟩ : law22_Op)).What), .int .i64 ((a0.getD (x13 : Int).toNat (⟨0, 0, 0, []⟩ : law22_Op)).To), .int .i64 ((a0.getD (x13 : Int).toNat (⟨0, 0, 0, []⟩ : law22_Op)).I), .slice A25 ((a0.getD (x13 : Int).toNat (⟨0, 0, 0, []⟩ : law22_Op)).B).length c26] :: celz g28 o29 [.int .i64 ((a0.getD (x13 : Int).toNat (⟨0, 0, 0, []⟩ : law22_Op)).What), .int .i64 ((a0.getD (x13 : Int).toNat (⟨0, 0, 0, []⟩ : law22_Op)).To), .int .i64 ((a0.getD (x13 : Int).toNat (⟨0, 0, 0, []⟩ : law22_Op)).I), .slice A31 ((a0.getD (x13 : Int).toNat (⟨0, 0, 0, []⟩ : law22_Op)).B).length c32] :: ps) (own (kSlice kByte) 35 A51 c52 x50 :: obj_lan_Lan g6 x40 :: fs) w) ?_ ?_
              · skip
                by_cases c55 : ((a0.getD (x13 : Int).toNat (⟨0, 0, 0, []⟩ : law22_Op)).To) = x7
                · rw [if_pos c55] at k_53
                  rw [decide_eq_true c55] at F
                  refine wp_cond_true (F.ev rfl) ?_
                  refine wp_region_lit ?_
                  refine mv F rfl fun a F => ?_
                  refine mv F rfl fun a F => ?_
                  refine mv F rfl fun a F => ?_
                  obtain ⟨c56, k_53⟩ := guardO k_53
                  obtain ⟨g57, o58, s59, hr, H⟩ := H.ix (⟨0, 0, 0, []⟩ : law22_Op) 12 rfl (F.ev (x := .tmp 64) rfl) (F.ev (x := .tmp 65) rfl) Try.underlying22 sz37 (by decide) c56.1 c56.2
                  obtain ⟨A60, c61, rfl, H⟩ := H.open_law22_Op 1 rfl
                  refine ls (qv F (hr _ _ _ _ _ _) fun a F => ?_)
                  refine ls (qv F (r_fa (off := 3) (F.ev (x := .tmp 66) rfl) fa37_3) fun a F => ?_)
                  refine ls (qv F (r_ld (F.ev (x := .tmp 67) rfl) (range_cell (j := 3) (H.range 1 rfl) rfl) one35) fun a F => ?_)
                  refine ls (lbs F H (e := 35) (vs := [(0, .slice A60 ((a0.getD (x13 : Int).toNat (⟨0, 0, 0, []⟩ : law22_Op)).B).length c61)]) (cs := [.slice A60 ((a0.getD (x13 : Int).toNat (⟨0, 0, 0, []⟩ : law22_Op)).B).length c61]) rfl (fun w => by kernel_rfl) fun g62 w a H F => ?_)
                  obtain ⟨c63, k_53⟩ := guardO k_53
                  obtain ⟨A64, c65, _, hr, H⟩ := Hp.appendCelL (kd := (kSlice kByte)) (xs := x10) (ys := [(a0.getD (x13 : Int).toNat (⟨0, 0, 0, []⟩ : law22_Op)).B]) (H.f1.f1.f2) (F.ev (x := .tmp 63) rfl) (F.ev (x := .tmp 69) rfl) Try.underlying26 ti35 rfl (by decide) (by decide) rfl ((SayL.cons (kd := (kSlice kByte)) (c1 := [.slice A60 ((a0.getD (x13 : Int).toNat (⟨0, 0, 0, []⟩ : law22_Op)).B).length c61]) (y := (a0.getD (x13 : Int).toNat (⟨0, 0, 0, []⟩ : law22_Op)).B) (fun Z hp => ⟨A60, c61, rfl, pat hp 0 rfl⟩) SayL.nil)) c63
                  refine ls (qv F (hr _ _ _ _ _) fun a F => ?_)
                  refine as_ F rfl fun a F => ?_
                  refine wpList_nil ?_
                  try dsimp only at k_53
                  cases k_53
                  exact ⟨_, _, rfl, A64, c65, F.only [0, 4, 5, 6, 7, 8, 9, 23, 24, 25, 26, 29, 30, 31, 32, 33, 34, 35, 36, 37, 38, 39, 40, 41, 42, 43, 44, 45, 46, 47, 54, 55, 56, 57, 58, 59, 60, 61, 62] rfl, H.p10.p14.p6.p10.p13.p20.px6.px6.px6.px6.px6.px6.px6.px6.px6.px6.px6.px6.px6.px6.px6.px6⟩
                · rw [if_neg c55] at k_53
                  rw [decide_eq_false c55] at F
                  refine wp_cond_false (F.ev rfl) ?_
                  refine wp_skip ?_
                  try dsimp only at k_53
                  cases k_53
                  exact ⟨_, _, rfl, A11, c12, F.only [0, 4, 5, 6, 7, 8, 9, 23, 24, 25, 26, 29, 30, 31, 32, 33, 34, 35, 36, 37, 38, 39, 40, 41, 42, 43, 44, 45, 46, 47, 54, 55, 56, 57, 58, 59, 60, 61, 62] rfl, H.p7.p11.p3.p7.p10.p17.px6.px6.px6.px6.px6.px6.px6.px6.px6.px6.px6.px6.px6.f1⟩
              · rintro a w ⟨x50, x53, rfl, A51, c52, F, H⟩
                try dsimp only at j_18 F H
                refine wp_region_lit ?_
                refine mv F rfl fun a F => ?_
                refine ls (qv F (r_add (F.ev (x := .tmp 27) rfl) (F.ev (x := .const (.int .i64 1)) rfl)) fun a F => ?_)
                refine as_ F rfl fun a F => ?_
                refine wpList_nil ?_
                try dsimp only at j_18
                cases j_18
                exact ⟨_, rfl, A51, c52, F.only [0, 4, 5, 6, 7, 8, 9] rfl, H.px5.px4.px3.px2.px1⟩
          · rw [if_neg c42] at j_18
            rw [decide_eq_false c42] at F
            refine dq 19 F rfl (by kernel_rfl) NP HS (fun w S => (r_mv (F.ev (x := .tmp 0) rfl))) fun a F => ?_
            refine dq 20 F rfl (by kernel_rfl) NP HS (fun w S => (r_mv (F.ev (x := .tmp 9) rfl))) fun a F => ?_
            obtain ⟨c66, j_18⟩ := guardO j_18
            obtain ⟨g67, o68, s69, hr, H⟩ := H.ix (⟨0, 0, 0, []⟩ : law22_Op) 9 rfl (F.ev (x := .tmp 48) rfl) (F.ev (x := .tmp 49) rfl) Try.underlying22 sz37 (by decide) c66.1 c66.2
            obtain ⟨A70, c71, rfl, H⟩ := H.open_law22_Op 1 rfl
            have HS := H.fx1.fx0
            refine dmoreH HS (fun w S => S.px2.px1.px0) ?_
            refine dq 21 F rfl (by kernel_rfl) NP HS (fun w S => (hr _ _ _ _ _ _)) fun a F => ?_
            refine dq 22 F rfl (by kernel_rfl) NP HS (fun w S => (r_fa (off := 1) (F.ev (x := .tmp 50) rfl) fa37_1)) fun a F => ?_
            refine dq 23 F rfl (by kernel_rfl) NP HS (fun w S => (r_ld (F.ev (x := .tmp 51) rfl) (range_cell (j := 1) (S.range 1 rfl) rfl) one3)) fun a F => ?_
            refine dq 24 F rfl (by kernel_rfl) NP HS (fun w S => (r_eq (F.ev (x := .tmp 52) rfl) (F.ev (x := .const (.int .i64 1)) rfl))) fun a F => ?_
            refine dq 25 F rfl (by kernel_rfl) NP HS (fun w S => (r_pickF (F.ev (x := .tmp 47) rfl) (F.ev (x := .tmp 53) rfl))) fun a F => ?_
            refine dq 26 F rfl (by kernel_rfl) NP HS (fun w S => (r_bne (F.ev (x := .tmp 40) rfl) (F.ev (x := .tmp 54) rfl) Try.underlying4)) fun a F => ?_
            refine ddone (by kernel_rfl) ?_
            by_cases c72 : ((x39 != (decide (((a0.getD (x13 : Int).toNat (⟨0, 0, 0, []⟩ : law22_Op)).To) = 1)))) = true
            · rw [if_pos c72] at j_18
              rw [c72] at F
              refine wp_cond_true (F.ev rfl) ?_
              refine rg ?_
              refine as_ F (v := .bool false) rfl fun a F => ?_
              refine rgend ?_
              refine wp_ret ?_
              try dsimp only at j_18
              cases j_18
              cases u_18 _ rfl
              try dsimp only at h
              cases h
              exact RET _ _ (ret1 F rfl rfl ⟨_, rfl, rfl, H.px12.px11.px10.px9.px8.px7.px6.px5.px4.px3.px2.px1.px0.fx1.fx0⟩)
            · rw [if_neg c72] at j_18
              rw [Bool.eq_false_iff.2 c72] at F
              refine wp_cond_false (F.ev rfl) ?_
              refine wp_skip ?_
              refine rg ?_
              refine mv F rfl fun a F => ?_
              refine mv F rfl fun a F => ?_
              obtain ⟨c73, j_18⟩ := guardO j_18
              obtain ⟨g74, o75, s76, hr, H⟩ := H.ix (⟨0, 0, 0, []⟩ : law22_Op) 12 rfl (F.ev (x := .tmp 56) rfl) (F.ev (x := .tmp 57) rfl) Try.underlying22 sz37 (by decide) c73.1 c73.2
              obtain ⟨A77, c78, rfl, H⟩ := H.open_law22_Op 1 rfl
              refine ls (qv F (hr _ _ _ _ _ _) fun a F => ?_)
              refine ls (qv F (r_fa (off := 1) (F.ev (x := .tmp 58) rfl) fa37_1) fun a F => ?_)
              refine ls (qv F (r_ld (F.ev (x := .tmp 59) rfl) (range_cell (j := 1) (H.range 1 rfl) rfl) one3) fun a F => ?_)
              refine mv F rfl fun a F => ?_
              refine ls (qv F (r_eq (F.ev (x := .tmp 60) rfl) (F.ev (x := .tmp 61) rfl)) fun a F => ?_)
              refine rgend ?_
              obtain ⟨o_82, k_82, j_18⟩ := Option.bind_eq_some_iff.1 j_18
              refine cut (fun a w => ∃ (x79 : List (List Int)) (x82 : Bool), (x79, x82) = o_82 ∧ ∃ (A80 : Option Addr) (c81 : Nat), Fr 111 [] [(0, .slice A0_ a0.length c0_), (4, .bool false), (5, .bool x1), (6, .pointer (some ⟨g6, 0, none⟩)), (7, .int .i64 x7), (8, .slice A80 x79.length c81), (9, .int .i64 x13), (23, .int .i64 x13), (24, .slice A0_ a0.length c0_), (25, .int .i64 (a0.length : Int)), (26, .bool true), (29, .pointer (some ⟨g6, 0, none⟩)), (30, .slice A0_ a0.length c0_), (31, .int .i64 x13), (32, .pointer (some ⟨g22, o23, none⟩)), (33, .pointer (some ⟨g22, o23 + 1, none⟩)), (34, .int .i64 ((a0.getD (x13 : Int).toNat (⟨0, 0, 0, []⟩ : law22_Op)).To)), (35, .slice A0_ a0.length c0_), (36, .int .i64 x13), (37, .pointer (some ⟨g28, o29, none⟩)), (38, .pointer (some ⟨g28, o29 + 3, none⟩)), (39, .slice A31 ((a0.getD (x13 : Int).toNat (⟨0, 0, 0, []⟩ : law22_Op)).B).length c32), (40, .bool x39), (41, .slice A0_ a0.length c0_), (42, .int .i64 x13), (43, .pointer (some ⟨g34, o35, none⟩)), (44, .pointer (some ⟨g34, o35 + 1, none⟩)), (45, .int .i64 ((a0.getD (x13 : Int).toNat (⟨0, 0, 0, []⟩ : law22_Op)).To)), (46, .bool false), (47, .bool false), (48, .slice A0_ a0.length c0_), (49, .int .i64 x13), (50, .pointer (some ⟨g67, o68, none⟩)), (51, .pointer (some ⟨g67, o68 + 1, none⟩)), (52, .int .i64 ((a0.getD (x13 : Int).toNat (⟨0, 0, 0, []⟩ : law22_Op)).To)), (53, .bool (decide (((a0.getD (x13 : Int).toNat (⟨0, 0, 0, []⟩ : law22_Op)).To) = 1))), (54, .bool (decide (((a0.getD (x13 : Int).toNat (⟨0, 0, 0, []⟩ : law22_Op)).To) = 1))), (55, .bool false), (56, .slice A0_ a0.length c0_), (57, .int .i64 x13), (58, .pointer (some ⟨g74, o75, none⟩)), (59, .pointer (some ⟨g74, o75 + 1, none⟩)), (60, .int .i64 ((a0.getD (x13 : Int).toNat (⟨0, 0, 0, []⟩ : law22_Op)).To)), (61, .int .i64 x7), (62, .bool x82)] a ∧ Hp w0 (rd k_law22_Op A0_ c0_ a0 :: rd kByte A31 c32 ((a0.getD (x13 : Int).toNat (⟨0, 0, 0, []⟩ : law22_Op)).B) :: celz g34 o35 [.int .i64 ((a0.getD (x13 : Int).toNat (⟨0, 0, 0, []⟩ : law22_Op)).What), .int .i64 ((a0.getD (x13 : Int).toNat (⟨0, 0, 0, []⟩ : law22_Op)).To), .int .i64 ((a0.getD (x13 : Int).toNat (⟨0, 0, 0, []⟩ : law22_Op)).I), .slice A37 ((a0.getD (x13 : Int).toNat (⟨0, 0, 0, []⟩ : law22_Op)).B).length c38] :: celz g74 o75 [.int .i64 ((a0.getD (x13 : Int).toNat (⟨0, 0, 0, []⟩ : law22_Op)).What), .int .i64 ((a0.getD (x13 : Int).toNat (⟨0, 0, 0, []⟩ : law22_Op)).To), .int .i64 ((a0.getD (x13 : Int).toNat (⟨0, 0, 0, []⟩ : law22_Op)).I), .slice A77 ((a0.getD (x13 : Int).toNat (⟨0, 0, 0, []⟩ : law22_Op)).B).length c78] :: celz g22 o23 [.int .i64 ((a0.getD (x13 : Int).toNat (⟨0, 0, 0, []⟩ : law22_Op)).What), .int .i64 ((a0.getD (x13 : Int).toNat (⟨0, 0, 0, []⟩ : law22_Op)).To), .int .i64 ((a0.getD (x13 : Int).toNat (⟨0, 0, 0, []⟩ : law22_Op)).I), .slice A25 ((a0.getD (x13 : Int).toNat (⟨0, 0, 0, []⟩ : law22_Op)).B).length c26] :: celz g67 o68 [.int .i64 ((a0.getD (x13 : Int).toNat (⟨0, 0, 0, []⟩ : law22_Op)).What), .int .i64 ((a0.getD (x13 : Int).toNat (⟨0, 0, 0, []⟩ : law22_Op)).To), .int .i64 ((a0.getD (x13 : Int).toNat (⟨0, 0, 0, []⟩ : law22_Op)).I), .slice A70 ((a0.getD (x13 : Int).toNat (⟨0, 0, 0, []⟩ : law22_Op)).B).length c71] :: celz g28 o29 [.int .i64 ((a0.getD (x13 : Int).toNat (⟨0, 0, 0, []⟩ : law22_Op)).What), .int .i64 ((a0.getD (x13 : Int).toNat (⟨0, 0, 0, []⟩ : law22_Op)).To), .int .i64 ((a0.getD (x13 : Int).toNat (⟨0, 0, 0, []⟩ : law22_Op)).I), .slice A31 ((a0.getD (x13 : Int).toNat (⟨0, 0, 0, []⟩ : law22_Op)).B).length c32] :: ps) (own (kSlice kByte) 35 A80 c81 x79 :: obj_lan_Lan g6 x40 :: fs) w) ?_ ?_
              · skip
                by_cases c84 : ((a0.getD (x13 : Int).toNat (⟨0, 0, 0, []⟩ : law22_Op)).To) = x7
                · rw [if_pos c84] at k_82
                  rw [decide_eq_true c84] at F
                  refine wp_cond_true (F.ev rfl) ?_
                  refine wp_region_lit ?_
                  refine mv F rfl fun a F => ?_
                  refine mv F rfl fun a F => ?_
                  refine mv F rfl fun a F => ?_
                  obtain ⟨c85, k_82⟩ := guardO k_82
                  obtain ⟨g86, o87, s88, hr, H⟩ := H.ix (⟨0, 0, 0, []⟩ : law22_Op) 15 rfl (F.ev (x := .tmp 64) rfl) (F.ev (x := .tmp 65) rfl) Try.underlying22 sz37 (by decide) c85.1 c85.2
                  obtain ⟨A89, c90, rfl, H⟩ := H.open_law22_Op 1 rfl
                  refine ls (qv F (hr _ _ _ _ _ _) fun a F => ?_)
                  refine ls (qv F (r_fa (off := 3) (F.ev (x := .tmp 66) rfl) fa37_3) fun a F => ?_)
                  refine ls (qv F (r_ld (F.ev (x := .tmp 67) rfl) (range_cell (j := 3) (H.range 1 rfl) rfl) one35) fun a F => ?_)
                  refine ls (lbs F H (e := 35) (vs := [(0, .slice A89 ((a0.getD (x13 : Int).toNat (⟨0, 0, 0, []⟩ : law22_Op)).B).length c90)]) (cs := [.slice A89 ((a0.getD (x13 : Int).toNat (⟨0, 0, 0, []⟩ : law22_Op)).B).length c90]) rfl (fun w => by kernel_rfl) fun g91 w a H F => ?_)
                  obtain ⟨c92, k_82⟩ := guardO k_82
                  obtain ⟨A93, c94, _, hr, H⟩ := Hp.appendCelL (kd := (kSlice kByte)) (xs := x10) (ys := [(a0.getD (x13 : Int).toNat (⟨0, 0, 0, []⟩ : law22_Op)).B]) (H.f1.f1.f2) (F.ev (x := .tmp 63) rfl) (F.ev (x := .tmp 69) rfl) Try.underlying26 ti35 rfl (by decide) (by decide) rfl ((SayL.cons (kd := (kSlice kByte)) (c1 := [.slice A89 ((a0.getD (x13 : Int).toNat (⟨0, 0, 0, []⟩ : law22_Op)).B).length c90]) (y := (a0.getD (x13 : Int).toNat (⟨0, 0, 0, []⟩ : law22_Op)).B) (fun Z hp => ⟨A89, c90, rfl, pat hp 0 rfl⟩) SayL.nil)) c92
                  refine ls (qv F (hr _ _ _ _ _) fun a F => ?_)
                  refine as_ F rfl fun a F => ?_
                  refine wpList_nil ?_
                  try dsimp only at k_82
                  cases k_82
                  exact ⟨_, _, rfl, A93, c94, F.only [0, 4, 5, 6, 7, 8, 9, 23, 24, 25, 26, 29, 30, 31, 32, 33, 34, 35, 36, 37, 38, 39, 40, 41, 42, 43, 44, 45, 46, 47, 48, 49, 50, 51, 52, 53, 54, 55, 56, 57, 58, 59, 60, 61, 62] rfl, H.p13.p8.p18.p7.p14.p17.p24.px7.px7.px7.px7.px7.px7.px7.px7.px7.px7.px7.px7.px7.px7.px7.px7.px7.px7.px7⟩
                · rw [if_neg c84] at k_82
                  rw [decide_eq_false c84] at F
                  refine wp_cond_false (F.ev rfl) ?_
                  refine wp_skip ?_
                  try dsimp only at k_82
                  cases k_82
                  exact ⟨_, _, rfl, A11, c12, F.only [0, 4, 5, 6, 7, 8, 9, 23, 24, 25, 26, 29, 30, 31, 32, 33, 34, 35, 36, 37, 38, 39, 40, 41, 42, 43, 44, 45, 46, 47, 48, 49, 50, 51, 52, 53, 54, 55, 56, 57, 58, 59, 60, 61, 62] rfl, H.p10.p5.p15.p4.p11.p14.p21.px7.px7.px7.px7.px7.px7.px7.px7.px7.px7.px7.px7.px7.px7.px7.px7.f1⟩
              · rintro a w ⟨x79, x82, rfl, A80, c81, F, H⟩
                try dsimp only at j_18 F H
                refine wp_region_lit ?_
                refine mv F rfl fun a F => ?_
                refine ls (qv F (r_add (F.ev (x := .tmp 27) rfl) (F.ev (x := .const (.int .i64 1)) rfl)) fun a F => ?_)
                refine as_ F rfl fun a F => ?_
                refine wpList_nil ?_
                try dsimp only at j_18
                cases j_18
                exact ⟨_, rfl, A80, c81, F.only [0, 4, 5, 6, 7, 8, 9] rfl, H.px6.px5.px4.px3.px2.px1⟩
        · rw [if_neg c20] at j_18
          rw [decide_eq_false c20] at F
          refine wp_cond_false (F.ev rfl) ?_
          refine wp_exit ?_
          try dsimp only at j_18
          cases j_18
          cases u_18 _ rfl
          repeat (with_reducible refine exT ?_)
          with_reducible refine exB ?_
          exact ⟨_, _, rfl, A11, c12, F.only [4, 5, 6, 7, 8] rfl, H.px0⟩
      · rintro a w ⟨x15, x18, rfl, A16, c17, F, H⟩
        try dsimp only at h F H
        refine rg ?_
        refine as_ F (v := .slice none 0 0) rfl fun a F => ?_
        refine rgend ?_
        refine wp_seq ?_
        refine rg ?_
        refine as_ F (v := .int .i64 0) rfl fun a F => ?_
        refine rgend ?_
        replace H := H.nilOwn (kSlice kByte) 35
        obtain ⟨o_103, k_103, h⟩ := Option.bind_eq_some_iff.1 h
        refine cut (fun a w => ∃ (x100 : List (List Int)) (x103 : lan_Lan), Sum.inl (x100, x103) = o_103 ∧ ∃ (A101 : Option Addr) (c102 : Nat), Fr 111 [] [(4, .bool false), (5, .bool x1), (6, .pointer (some ⟨g6, 0, none⟩)), (7, .int .i64 x7), (8, .slice A16 x15.length c17), (10, .slice A101 x100.length c102)] a ∧ Hp w0 ps (own (kSlice kByte) 35 A101 c102 x100 :: own (kSlice kByte) 35 A16 c17 x15 :: obj_lan_Lan g6 x103 :: fs) w) (wp_block ?_) ?_
        · refine wloop (law22_LanOrder_b1 x7 x15) (fun (s : (List (List Int)) × Int × lan_Lan) a w => ∃ (A96 : Option Addr) (c97 : Nat), Fr 111 [] [(4, .bool false), (5, .bool x1), (6, .pointer (some ⟨g6, 0, none⟩)), (7, .int .i64 x7), (8, .slice A16 x15.length c17), (10, .slice A96 s.1.length c97), (11, .int .i64 s.2.1)] a ∧ Hp w0 ps (own (kSlice kByte) 35 A96 c97 s.1 :: own (kSlice kByte) 35 A16 c17 x15 :: obj_lan_Lan g6 s.2.2 :: fs) w) k_103 ⟨none, 0, F.only [4, 5, 6, 7, 8, 10, 11] rfl, H⟩ ?_
          rintro ⟨x95, x98, x99⟩ a w q_103 j_103 u_103 ⟨A96, c97, F, H⟩
          unfold law22_LanOrder_b1 at j_103
          try dsimp only at j_103 F H
          refine wp_seq ?_
          refine rg ?_
          refine mv F rfl fun a F => ?_
          refine mv F rfl fun a F => ?_
          refine ls (qv F (r_len (F.ev (x := .tmp 72) rfl) Try.underlying26) fun a F => ?_)
          refine ls (qv F (r_lt (F.ev (x := .tmp 71) rfl) (F.ev (x := .tmp 73) rfl)) fun a F => ?_)
          refine rgend ?_
          by_cases c105 : x98 < (x15.length : Int)
          · rw [if_pos c105] at j_103
            rw [decide_eq_true c105] at F
            refine wp_cond_true (F.ev rfl) ?_
            refine wp_skip ?_
            refine wp_seq ?_
            refine wp_block ?_
            refine rg ?_
            refine mv F rfl fun a F => ?_
            refine mv F rfl fun a F => ?_
            obtain ⟨⟨x106, x107, x108⟩, e109, j_103⟩ := Option.bind_eq_some_iff.1 j_103
            try dsimp only at j_103
            refine ls (call F Try.func10 (lan_Lan_Take_ok (H.f1.f1.f2) e109) rfl rfl fun v w hR a F => ?_)
            obtain ⟨A110, c111, rfl, H⟩ := hR
            refine mv F rfl fun a F => ?_
            refine ls (qv F (r_ex (F.ev (x := .tmp 77) rfl) rfl) fun a F => ?_)
            refine ls (qv F (r_ex (F.ev (x := .tmp 77) rfl) rfl) fun a F => ?_)
            refine as_ F rfl fun a F => ?_
            refine as_ F rfl fun a F => ?_
            refine rgend ?_
            refine wp_seq ?_
            refine rg ?_
            refine mv F rfl fun a F => ?_
            refine ls (qv F (r_not (F.ev (x := .tmp 83) rfl)) fun a F => ?_)
            refine rgend ?_
            by_cases c112 : x107 = true
            · rw [if_pos c112] at j_103
              rw [c112] at F
              refine wp_cond_false (F.ev rfl) ?_
              refine wp_skip ?_
              refine wp_region_lit ?_
              refine mv F rfl fun a F => ?_
              refine mv F rfl fun a F => ?_
              replace H := (H).freeze
              refine ls (lbs F H (e := 35) (vs := [(0, .slice A110 x106.length c111)]) (cs := [.slice A110 x106.length c111]) rfl (fun w => by kernel_rfl) fun g113 w a H F => ?_)
              obtain ⟨c114, j_103⟩ := guardO j_103
              obtain ⟨A115, c116, _, hr, H⟩ := Hp.appendCelL (kd := (kSlice kByte)) (xs := x95) (ys := [x106]) (H.f3.f2.f2.f3) (F.ev (x := .tmp 85) rfl) (F.ev (x := .tmp 87) rfl) Try.underlying26 ti35 rfl (by decide) (by decide) rfl ((SayL.cons (kd := (kSlice kByte)) (c1 := [.slice A110 x106.length c111]) (y := x106) (fun Z hp => ⟨A110, c111, rfl, pat hp 0 rfl⟩) SayL.nil)) c114
              refine ls (qv F (hr _ _ _ _ _) fun a F => ?_)
              refine as_ F rfl fun a F => ?_
              refine wpList_nil ?_
              refine wp_region_lit ?_
              refine mv F rfl fun a F => ?_
              refine ls (qv F (r_add (F.ev (x := .tmp 75) rfl) (F.ev (x := .const (.int .i64 1)) rfl)) fun a F => ?_)
              refine as_ F rfl fun a F => ?_
              refine wpList_nil ?_
              try dsimp only at j_103
              cases j_103
              exact ⟨_, rfl, A115, c116, F.only [4, 5, 6, 7, 8, 10, 11] rfl, H.px0.f1.f2.f2⟩
            · rw [if_neg c112] at j_103
              rw [Bool.eq_false_iff.2 c112] at F
              refine wp_cond_true (F.ev rfl) ?_
              refine rg ?_
              refine as_ F (v := .bool false) rfl fun a F => ?_
              refine rgend ?_
              refine wp_ret ?_
              try dsimp only at j_103
              cases j_103
              cases u_103 _ rfl
              try dsimp only at h
              cases h
              exact RET _ _ (ret1 F rfl rfl ⟨_, rfl, rfl, H.fx3.fx2.fx1.fx0⟩)
          · rw [if_neg c105] at j_103
            rw [decide_eq_false c105] at F
            refine wp_cond_false (F.ev rfl) ?_
            refine wp_exit ?_
            try dsimp only at j_103
            cases j_103
            cases u_103 _ rfl
            repeat (with_reducible refine exT ?_)
            with_reducible refine exB ?_
            exact ⟨_, _, rfl, A96, c97, F.only [4, 5, 6, 7, 8, 10] rfl, H⟩
        · rintro a w ⟨x100, x103, rfl, A101, c102, F, H⟩
          try dsimp only at h F H
          refine rg ?_
          refine mv F rfl fun a F => ?_
          refine mv F rfl fun a F => ?_
          obtain ⟨⟨x117, x118, x119⟩, e120, h⟩ := Option.bind_eq_some_iff.1 h
          try dsimp only at h
          refine ls (call F Try.func10 (lan_Lan_Take_ok (H.f1.f1.f2) e120) rfl rfl fun v w hR a F => ?_)
          obtain ⟨A121, c122, rfl, H⟩ := hR
          refine mv F rfl fun a F => ?_
          refine ls (qv F (r_ex (F.ev (x := .tmp 89) rfl) rfl) fun a F => ?_)
          refine ls (qv F (r_ex (F.ev (x := .tmp 89) rfl) rfl) fun a F => ?_)
          refine as_ F rfl fun a F => ?_
          refine as_ F rfl fun a F => ?_
          refine rgend ?_
          replace F := F.only [15, 4, 5, 6, 7, 8, 10] (l' := [(15, .bool x118), (4, .bool false), (5, .bool x1), (6, .pointer (some ⟨g6, 0, none⟩)), (7, .int .i64 x7), (8, .slice A16 x15.length c17), (10, .slice A101 x100.length c102)]) rfl
          refine wp_seq ?_
          obtain ⟨o_123, k_123, h⟩ := Option.bind_eq_some_iff.1 h
          refine cut (fun a w => ∃ (x123 : Bool), x123 = o_123 ∧ Fr 111 [] [(4, .bool x123)] a ∧ Hp w0 ps (obj_lan_Lan g6 x119 :: fs) w) ?_ ?_
          · skip
            refine wp_region_lit ?_
            refine mv F rfl fun a F => ?_
            refine mv F rfl fun a F => ?_
            by_cases c125 : x1 = true
            · rw [if_pos c125] at k_123
              rw [c125] at F
              refine mv F rfl fun a F => ?_
              refine mv F rfl fun a F => ?_
              replace H := (H.f3.f2.f2.f3).freeze
              replace H := (H.f1.f1.f2).freeze
              obtain ⟨x126, e127, k_123⟩ := Option.bind_eq_some_iff.1 k_123
              try dsimp only at k_123
              refine ls (call F Try.func18 (ref17_SameRows_ok (H.p0.p2) e127) rfl rfl fun v w hR a F => ?_)
              obtain ⟨rfl, H⟩ := hR
              refine ls (qv F (r_pickT (F.ev (x := .tmp 96) rfl) (F.ev (x := .tmp 99) rfl)) fun a F => ?_)
              refine mv F rfl fun a F => ?_
              by_cases c128 : x126 = true
              · rw [if_pos c128] at k_123
                rw [c128] at F
                refine mv F rfl fun a F => ?_
                refine ls (qv F (r_not (F.ev (x := .tmp 102) rfl)) fun a F => ?_)
                refine ls (qv F (r_pickT (F.ev (x := .tmp 101) rfl) (F.ev (x := .tmp 103) rfl)) fun a F => ?_)
                refine mv F rfl fun a F => ?_
                by_cases c129 : x118 = true
                · rw [if_pos c129] at k_123
                  rw [c129] at F
                  refine ls (off F fun a F => ?_)
                  refine ls (off F fun a F => ?_)
                  refine ls (off F fun a F => ?_)
                  refine ls (off F fun a F => ?_)
                  refine ls (qv F (r_pickF (F.ev (x := .tmp 105) rfl) (F.ev (x := .const (.bool false)) rfl)) fun a F => ?_)
                  refine as_ F rfl fun a F => ?_
                  refine wpList_nil ?_
                  replace F := F.only [4] (l' := [(4, .bool false)]) rfl
                  try dsimp only at k_123
                  cases k_123
                  exact ⟨_, rfl, F.only [4] rfl, H.px1.px0.fx0⟩
                · rw [if_neg c129] at k_123
                  rw [Bool.eq_false_iff.2 c129] at F
                  refine mv F rfl fun a F => ?_
                  refine mv F rfl fun a F => ?_
                  obtain ⟨x130, e131, k_123⟩ := Option.bind_eq_some_iff.1 k_123
                  try dsimp only at k_123
                  refine ls (call F Try.func16 (lan_Lan_Many_ok (H.f1) e131) rfl rfl fun v w hR a F => ?_)
                  obtain ⟨rfl, H⟩ := hR
                  refine ls (qv F (r_eq (F.ev (x := .tmp 108) rfl) (F.ev (x := .const (.int .i64 0)) rfl)) fun a F => ?_)
                  refine ls (qv F (r_pickT (F.ev (x := .tmp 105) rfl) (F.ev (x := .tmp 109) rfl)) fun a F => ?_)
                  refine as_ F rfl fun a F => ?_
                  refine wpList_nil ?_
                  replace F := F.only [4] (l' := [(4, .bool (decide (x130 = 0)))]) rfl
                  try dsimp only at k_123
                  cases k_123
                  exact ⟨_, rfl, F.only [4] rfl, H.px1.px0.fx1⟩
              · rw [if_neg c128] at k_123
                rw [Bool.eq_false_iff.2 c128] at F
                refine ls (off F fun a F => ?_)
                refine ls (off F fun a F => ?_)
                refine ls (qv F (r_pickF (F.ev (x := .tmp 101) rfl) (F.ev (x := .const (.bool false)) rfl)) fun a F => ?_)
                refine mv F rfl fun a F => ?_
                refine ls (off F fun a F => ?_)
                refine ls (off F fun a F => ?_)
                refine ls (off F fun a F => ?_)
                refine ls (off F fun a F => ?_)
                refine ls (qv F (r_pickF (F.ev (x := .tmp 105) rfl) (F.ev (x := .const (.bool false)) rfl)) fun a F => ?_)
                refine as_ F rfl fun a F => ?_
                refine wpList_nil ?_
                replace F := F.only [4] (l' := [(4, .bool false)]) rfl
                try dsimp only at k_123
                cases k_123
                exact ⟨_, rfl, F.only [4] rfl, H.px1.px0.fx0⟩
            · rw [if_neg c125] at k_123
              rw [Bool.eq_false_iff.2 c125] at F
              refine ls (off F fun a F => ?_)
              refine ls (off F fun a F => ?_)
              refine ls (off F fun a F => ?_)
              refine ls (qv F (r_pickF (F.ev (x := .tmp 96) rfl) (F.ev (x := .const (.bool false)) rfl)) fun a F => ?_)
              refine mv F rfl fun a F => ?_
              refine ls (off F fun a F => ?_)
              refine ls (off F fun a F => ?_)
              refine ls (qv F (r_pickF (F.ev (x := .tmp 101) rfl) (F.ev (x := .const (.bool false)) rfl)) fun a F => ?_)
              refine mv F rfl fun a F => ?_
              refine ls (off F fun a F => ?_)
              refine ls (off F fun a F => ?_)
              refine ls (off F fun a F => ?_)
              refine ls (off F fun a F => ?_)
              refine ls (qv F (r_pickF (F.ev (x := .tmp 105) rfl) (F.ev (x := .const (.bool false)) rfl)) fun a F => ?_)
              refine as_ F rfl fun a F => ?_
              refine wpList_nil ?_
              replace F := F.only [4] (l' := [(4, .bool false)]) rfl
              try dsimp only at k_123
              cases k_123
              exact ⟨_, rfl, F.only [4] rfl, H.fx3.fx2.fx0⟩
          · rintro a w ⟨x123, rfl, F, H⟩
            try dsimp only at h F H
            refine wp_ret ?_
            try dsimp only at h
            cases h
            exact RET _ _ (ret1 F rfl rfl ⟨_, rfl, rfl, H.fx0⟩)
end Go.Proofs.Ytflkagoglhckoaa
