/- What the functions compute. Printed by wip/gen. -/
import Derived.Test.YtdkdaggpfgajlaaGL
set_option linter.unusedVariables false
set_option linter.unusedSimpArgs false
namespace Go.Proofs.Ytdkdaggpfgajlaa
open Go Go.RowKit
def law17_RegionOne_f (a0 : Int) (a1 : List Int) (a2 : List (List Int)) (a3 : Int) (a4 : Int) : Option (Bool) :=
 ((law17_head_f).bind fun x1 => (if (a1.length : Int) > 3000 then some x1 else ((law17_Rows_f a2).bind fun x4 => (if x4 = true then some x1 else ((disk_New_f 400).bind fun x7 => match x7 with | none => some false | some x9 => ((region_Lay_f x9 100 200 a0 a1 a2).bind fun (x11, x12) => ((region_Read_f x12 100 200).bind fun (x14, x15) => ((region_Greatest_f x12 100 200).bind fun x24 => (((if ((IntKind.i64.wrap a4).tmod 400) ≥ 100 then some ((decide (((IntKind.i64.wrap a4).tmod 400) < 300))) else some false) : Option (Bool)).bind fun x26 => (((if x26 = true then some ((IntKind.i64.wrap (((IntKind.i64.wrap a4).tmod 400) - 100))) else some (((IntKind.i64.wrap a4).tmod 400))) : Option (Int)).bind fun x29 => (((if x29 ≥ 100 then some ((decide (x29 < 300))) else some false) : Option (Bool)).bind fun x32 => (((if x32 = true then some 0 else some x29) : Option (Int)).bind fun x35 => ((law15_Fill_f a3).bind fun x38 => ((disk_Disk_Write_f x12 x35 x38).bind fun (x42, x43) => ((ref16_Put_f (⟨281474976710656, 0, 1, 0, [1]⟩ : api_Sector)).bind fun x46 => ((disk_Disk_Write_f x43 399 x46).bind fun (x50, x51) => ((region_Read_f x51 100 200).bind fun (x53, x54) => (((if x1 = true then (if (x15 == x54) = true then (if ((x15 == (decide (x11 = 0)))) = true then ((ref17_Same_f x14 x53).bind fun x68 => (if x68 = true then ((region_Greatest_f x51 100 200).bind fun x71 => some ((decide (x71 = x24)))) else some false)) else some false) else some false) else some false) : Option (Bool)).bind fun x63 => some x63))))))))))))))))))
set_option maxHeartbeats 4000000 in
set_option maxRecDepth 20000 in
theorem law17_RegionOne_ok {w0 w : World} {ps : List PF} {fs : List SF} {a0 : Int} {a1 : List Int} {A1_ : Option Addr} {c1_ : Nat} {a2 : List (List Int)} {A2_ : Option Addr} {c2_ : Nat} {a3 : Int} {a4 : Int} {r0 : Bool} (H : Hp w0 (rd kByte A1_ c1_ a1 :: rd (kSlice kByte) A2_ c2_ a2 :: ps) fs w) (h : law17_RegionOne_f a0 a1 a2 a3 a4 = some r0) (ha3 : 0 ≤ a3 ∧ a3 < 256) :
  Calls Try.prog 5 [.int .i64 a0, .slice A1_ a1.length c1_, .slice A2_ a2.length c2_, .int .u8 a3, .int .u16 a4].toArray w fun e w' => ∃ v, e = .returned v ∧ v = .bool r0 ∧ Hp w0 ps fs w' := by
 refine enter [.int .i64 a0, .slice A1_ a1.length c1_, .slice A2_ a2.length c2_, .int .u8 a3, .int .u16 a4] 99 Try.func5 fun Q a NP RET NRM F => ?_
 replace NP : ∀ c a w, ¬ Q (.panic c) a w := fun c a w h => by rcases NP c a w h with h | ⟨w, v, h, _⟩ <;> cases h
 unfold law17_RegionOne_f at h
 refine rg ?_
 refine as_ F (v := .bool false) rfl fun a F => ?_
 refine rgend ?_
 refine rg ?_
 obtain ⟨x1, e2, h⟩ := Option.bind_eq_some_iff.1 h
 try dsimp only at h
 refine ls (call F Try.func9 (law17_head_ok (H) e2) rfl rfl fun v w hR a F => ?_)
 obtain ⟨rfl, H⟩ := hR
 refine as_ F rfl fun a F => ?_
 refine rgend ?_
 refine wp_seq ?_
 refine rg ?_
 refine mv F rfl fun a F => ?_
 refine qw F (r_len (F.t 21 rfl) Try.underlying23) fun a F => ?_
 refine qw F (r_gt (F.t 22 rfl) (F.ev (x := .const (.int .i64 3000)) rfl)) fun a F => ?_
 refine mv F rfl fun a F => ?_
 by_cases c3 : (a1.length : Int) > 3000
 ·rw [if_pos c3] at h
  rw [decide_eq_true c3] at F
  refine of_ F fun a F => ?_
  refine of_ F fun a F => ?_
  refine qw F (r_pickT (F.t 24 rfl) (F.ev (x := .const (.bool true)) rfl)) fun a F => ?_
  refine rgend ?_
  replace F := F.only [27, 11, 0, 1, 2, 3, 4] (l' := [(27, .bool true), (11, .bool x1), (0, .int .i64 a0), (1, .slice A1_ a1.length c1_), (2, .slice A2_ a2.length c2_), (3, .int .u8 a3), (4, .int .u16 a4)]) rfl
  refine wp_cond_true (F.ev rfl) ?_
  refine rg ?_
  refine mv F rfl fun a F => ?_
  refine as_ F rfl fun a F => ?_
  refine rgend ?_
  replace F := F.only [10] (l' := [(10, .bool x1)]) rfl
  refine wp_ret ?_
  try dsimp only at h
  obtain rfl := Option.some.inj h
  exact RET _ _ (ret1 F rfl rfl ⟨_, rfl, rfl, H.px1.px0⟩)
 ·rw [if_neg c3] at h
  rw [decide_eq_false c3] at F
  refine mv F rfl fun a F => ?_
  obtain ⟨x4, e5, h⟩ := Option.bind_eq_some_iff.1 h
  try dsimp only at h
  refine ls (call F Try.func17 (law17_Rows_ok (H.p1) e5) rfl rfl fun v w hR a F => ?_)
  obtain ⟨rfl, H⟩ := hR
  refine qw F (r_pickF (F.t 24 rfl) (F.t 26 rfl)) fun a F => ?_
  refine rgend ?_
  replace F := F.only [27, 11, 0, 1, 2, 3, 4] (l' := [(27, .bool x4), (11, .bool x1), (0, .int .i64 a0), (1, .slice A1_ a1.length c1_), (2, .slice A2_ a2.length c2_), (3, .int .u8 a3), (4, .int .u16 a4)]) rfl
  by_cases c6 : x4 = true
  ·rw [if_pos c6] at h
   rw [c6] at F
   refine wp_cond_true (F.ev rfl) ?_
   refine rg ?_
   refine mv F rfl fun a F => ?_
   refine as_ F rfl fun a F => ?_
   refine rgend ?_
   replace F := F.only [10] (l' := [(10, .bool x1)]) rfl
   refine wp_ret ?_
   try dsimp only at h
   obtain rfl := Option.some.inj h
   exact RET _ _ (ret1 F rfl rfl ⟨_, rfl, rfl, H.px1.px0⟩)
  ·rw [if_neg c6] at h
   rw [Bool.eq_false_iff.2 c6] at F
   refine wp_cond_false (F.ev rfl) ?_
   refine wp_skip ?_
   refine rg ?_
   obtain ⟨x7, e8, h⟩ := Option.bind_eq_some_iff.1 h
   try dsimp only at h
   rcases x7 with _ | x9
   ·try dsimp only at h
    refine ls (call F Try.func18 (disk_New_ok (H) e8) rfl rfl fun v w hR a F => ?_)
    obtain ⟨rfl, H⟩ := hR
    refine as_ F rfl fun a F => ?_
    refine rgend ?_
    refine wp_seq ?_
    refine rg ?_
    refine mv F rfl fun a F => ?_
    refine qw F (r_peq0 (F.t 30 rfl) (F.ev (x := .const (.pointer none)) rfl) Try.underlying28) fun a F => ?_
    refine rgend ?_
    refine wp_cond_true (F.ev rfl) ?_
    refine rg ?_
    refine as_ F (v := .bool false) rfl fun a F => ?_
    refine rgend ?_
    replace F := F.only [10] (l' := [(10, .bool false)]) rfl
    refine wp_ret ?_
    try dsimp only at h
    obtain rfl := Option.some.inj h
    exact RET _ _ (ret1 F rfl rfl ⟨_, rfl, rfl, H.px1.px0⟩)
   ·try dsimp only at h
    refine ls (call F Try.func18 (disk_New_ok (H) e8) rfl rfl fun v w hR a F => ?_)
    obtain ⟨g10, rfl, H⟩ := hR
    refine as_ F rfl fun a F => ?_
    refine rgend ?_
    refine wp_seq ?_
    refine rg ?_
    refine mv F rfl fun a F => ?_
    refine qw F (r_peq (F.t 30 rfl) (F.ev (x := .const (.pointer none)) rfl) Try.underlying28) fun a F => ?_
    refine rgend ?_
    refine wp_cond_false (F.ev rfl) ?_
    refine wp_skip ?_
    refine rg ?_
    refine mv F rfl fun a F => ?_
    refine mv F rfl fun a F => ?_
    refine mv F rfl fun a F => ?_
    refine mv F rfl fun a F => ?_
    obtain ⟨⟨x11, x12⟩, e13, h⟩ := Option.bind_eq_some_iff.1 h
    try dsimp only at h
    refine ls (call F Try.func19 (region_Lay_ok (H.p1.p1) e13) rfl rfl fun v w hR a F => ?_)
    obtain ⟨rfl, H⟩ := hR
    refine as_ F rfl fun a F => ?_
    refine rgend ?_
    replace F := F.only [13, 12, 11, 3, 4] (l' := [(13, .int .i64 x11), (12, .pointer (some ⟨g10, 0, none⟩)), (11, .bool x1), (3, .int .u8 a3), (4, .int .u16 a4)]) rfl
    refine rg ?_
    refine mv F rfl fun a F => ?_
    obtain ⟨⟨x14, x15⟩, e16, h⟩ := Option.bind_eq_some_iff.1 h
    try dsimp only at h
    refine ls (call F Try.func12 (region_Read_ok (H) e16) rfl rfl fun v w hR a F => ?_)
    obtain ⟨A17, c18, A19, c20, A21, c22, rfl, H⟩ := hR
    refine mv F rfl fun a F => ?_
    refine qw F (r_ex (F.t 37 rfl) rfl) fun a F => ?_
    refine qw F (r_ex (F.t 37 rfl) rfl) fun a F => ?_
    refine ls (lal F H ti34 (cs := [.int .i64 0, .slice none 0 0, .slice none 0 0, .slice none 0 0]) rfl fun g23 w a H F => ?_)
    obtain ⟨_, hr, H⟩ := Hp.store (t := 34) (o := 0) (n := 4) (vs := [.int .i64 x14.Gen, .slice A17 x14.State.length c18, .slice A19 x14.Kept.length c20, .slice A21 x14.More.length c22]) (cs' := [.int .i64 x14.Gen, .slice A17 x14.State.length c18, .slice A19 x14.Kept.length c20, .slice A21 x14.More.length c22]) (H) (F.t 14 rfl) (F.t 40 rfl) rfl sz34 rfl (Nat.le_of_ble_eq_true rfl) rfl rfl
    refine ls (qn F (.inl rfl) (hr _ _ _ _) fun a F => ?_)
    refine as_ F rfl fun a F => ?_
    refine rgend ?_
    replace F := F.only [15, 14, 13, 12, 11, 3, 4] (l' := [(15, .bool x15), (14, .pointer (some ⟨g23, 0, none⟩)), (13, .int .i64 x11), (12, .pointer (some ⟨g10, 0, none⟩)), (11, .bool x1), (3, .int .u8 a3), (4, .int .u16 a4)]) rfl
    refine rg ?_
    refine mv F rfl fun a F => ?_
    obtain ⟨x24, e25, h⟩ := Option.bind_eq_some_iff.1 h
    try dsimp only at h
    refine ls (call F Try.func15 (region_Greatest_ok (H.f1.f1.f2) e25) rfl rfl fun v w hR a F => ?_)
    obtain ⟨rfl, H⟩ := hR
    refine as_ F rfl fun a F => ?_
    refine rgend ?_
    refine rg ?_
    refine mv F rfl fun a F => ?_
    refine qw F (r_ci (F.t 44 rfl) Try.underlying3 Try.underlying48) fun a F => ?_
    refine qw F (r_rem (F.t 45 rfl) (F.ev (x := .const (.int .i64 400)) rfl) (by decide)) fun a F => ?_
    refine as_ F rfl fun a F => ?_
    refine rgend ?_
    replace F := F.only [17, 16, 15, 14, 13, 12, 11, 3] (l' := [(17, .int .i64 ((IntKind.i64.wrap a4).tmod 400)), (16, .int .i64 x24), (15, .bool x15), (14, .pointer (some ⟨g23, 0, none⟩)), (13, .int .i64 x11), (12, .pointer (some ⟨g10, 0, none⟩)), (11, .bool x1), (3, .int .u8 a3)]) rfl
    refine wp_seq ?_
    refine wp_seq ?_
    obtain ⟨o_26, k_26, h⟩ := Option.bind_eq_some_iff.1 h
    refine cut (fun a w => ∃ (x26 : Bool), x26 = o_26 ∧ Fr 99 [] [(3, .int .u8 a3), (11, .bool x1), (12, .pointer (some ⟨g10, 0, none⟩)), (13, .int .i64 x11), (14, .pointer (some ⟨g23, 0, none⟩)), (15, .bool x15), (16, .int .i64 x24), (17, .int .i64 ((IntKind.i64.wrap a4).tmod 400)), (52, .bool x26)] a ∧ Hp w0 (rd kByte A17 c18 x14.State :: rd (kSlice kByte) A19 c20 x14.Kept :: ps) (own (kSlice kByte) 23 A21 c22 x14.More :: obj_disk_Disk g10 x12 :: cel g23 [.int .i64 x14.Gen, .slice A17 x14.State.length c18, .slice A19 x14.Kept.length c20, .slice A21 x14.More.length c22] 34 :: fs) w) ?_ ?_
    ·skip
     refine wp_region_lit ?_
     refine mv F rfl fun a F => ?_
     refine qw F (r_ge (F.t 47 rfl) (F.ev (x := .const (.int .i64 100)) rfl)) fun a F => ?_
     refine mv F rfl fun a F => ?_
     by_cases c28 : ((IntKind.i64.wrap a4).tmod 400) ≥ 100
     ·rw [if_pos c28] at k_26
      rw [decide_eq_true c28] at F
      refine mv F rfl fun a F => ?_
      refine qw F (r_lt (F.t 50 rfl) (F.ev (x := .const (.int .i64 300)) rfl)) fun a F => ?_
      refine qw F (r_pickT (F.t 49 rfl) (F.t 51 rfl)) fun a F => ?_
      refine wpList_nil ?_
      replace F := F.only [52, 17, 16, 15, 14, 13, 12, 11, 3] (l' := [(52, .bool (decide (((IntKind.i64.wrap a4).tmod 400) < 300))), (17, .int .i64 ((IntKind.i64.wrap a4).tmod 400)), (16, .int .i64 x24), (15, .bool x15), (14, .pointer (some ⟨g23, 0, none⟩)), (13, .int .i64 x11), (12, .pointer (some ⟨g10, 0, none⟩)), (11, .bool x1), (3, .int .u8 a3)]) rfl
      try dsimp only at k_26
      obtain rfl := Option.some.inj k_26
      exact ⟨_, rfl, F.only [3, 11, 12, 13, 14, 15, 16, 17, 52] rfl, H.px3.px2.f1.f1.f2⟩
     ·rw [if_neg c28] at k_26
      rw [decide_eq_false c28] at F
      refine of_ F fun a F => ?_
      refine of_ F fun a F => ?_
      refine qw F (r_pickF (F.t 49 rfl) (F.ev (x := .const (.bool false)) rfl)) fun a F => ?_
      refine wpList_nil ?_
      replace F := F.only [52, 17, 16, 15, 14, 13, 12, 11, 3] (l' := [(52, .bool false), (17, .int .i64 ((IntKind.i64.wrap a4).tmod 400)), (16, .int .i64 x24), (15, .bool x15), (14, .pointer (some ⟨g23, 0, none⟩)), (13, .int .i64 x11), (12, .pointer (some ⟨g10, 0, none⟩)), (11, .bool x1), (3, .int .u8 a3)]) rfl
      try dsimp only at k_26
      obtain rfl := Option.some.inj k_26
      exact ⟨_, rfl, F.only [3, 11, 12, 13, 14, 15, 16, 17, 52] rfl, H.px3.px2.f1.f1.f2⟩
    ·rintro a w ⟨x26, rfl, F, H⟩
     try dsimp only at h F H
     obtain ⟨o_29, k_29, h⟩ := Option.bind_eq_some_iff.1 h
     refine cut (fun a w => ∃ (x29 : Int), x29 = o_29 ∧ Fr 99 [] [(3, .int .u8 a3), (11, .bool x1), (12, .pointer (some ⟨g10, 0, none⟩)), (13, .int .i64 x11), (14, .pointer (some ⟨g23, 0, none⟩)), (15, .bool x15), (16, .int .i64 x24), (17, .int .i64 x29)] a ∧ Hp w0 (rd kByte A17 c18 x14.State :: rd (kSlice kByte) A19 c20 x14.Kept :: ps) (own (kSlice kByte) 23 A21 c22 x14.More :: obj_disk_Disk g10 x12 :: cel g23 [.int .i64 x14.Gen, .slice A17 x14.State.length c18, .slice A19 x14.Kept.length c20, .slice A21 x14.More.length c22] 34 :: fs) w) ?_ ?_
     ·skip
      by_cases c31 : x26 = true
      ·rw [if_pos c31] at k_29
       rw [c31] at F
       refine wp_cond_true (F.ev rfl) ?_
       refine wp_region_lit ?_
       refine mv F rfl fun a F => ?_
       refine qw F (r_sub (F.t 53 rfl) (F.ev (x := .const (.int .i64 100)) rfl)) fun a F => ?_
       refine as_ F rfl fun a F => ?_
       refine wpList_nil ?_
       replace F := F.only [17, 3, 11, 12, 13, 14, 15, 16] (l' := [(17, .int .i64 (IntKind.i64.wrap (((IntKind.i64.wrap a4).tmod 400) - 100))), (3, .int .u8 a3), (11, .bool x1), (12, .pointer (some ⟨g10, 0, none⟩)), (13, .int .i64 x11), (14, .pointer (some ⟨g23, 0, none⟩)), (15, .bool x15), (16, .int .i64 x24)]) rfl
       try dsimp only at k_29
       obtain rfl := Option.some.inj k_29
       exact ⟨_, rfl, F.only [3, 11, 12, 13, 14, 15, 16, 17] rfl, H⟩
      ·rw [if_neg c31] at k_29
       rw [Bool.eq_false_iff.2 c31] at F
       refine wp_cond_false (F.ev rfl) ?_
       refine wp_skip ?_
       try dsimp only at k_29
       obtain rfl := Option.some.inj k_29
       exact ⟨_, rfl, F.only [3, 11, 12, 13, 14, 15, 16, 17] rfl, H⟩
     ·rintro a w ⟨x29, rfl, F, H⟩
      try dsimp only at h F H
      refine wp_seq ?_
      refine wp_seq ?_
      obtain ⟨o_32, k_32, h⟩ := Option.bind_eq_some_iff.1 h
      refine cut (fun a w => ∃ (x32 : Bool), x32 = o_32 ∧ Fr 99 [] [(3, .int .u8 a3), (11, .bool x1), (12, .pointer (some ⟨g10, 0, none⟩)), (13, .int .i64 x11), (14, .pointer (some ⟨g23, 0, none⟩)), (15, .bool x15), (16, .int .i64 x24), (17, .int .i64 x29), (60, .bool x32)] a ∧ Hp w0 (rd kByte A17 c18 x14.State :: rd (kSlice kByte) A19 c20 x14.Kept :: ps) (own (kSlice kByte) 23 A21 c22 x14.More :: obj_disk_Disk g10 x12 :: cel g23 [.int .i64 x14.Gen, .slice A17 x14.State.length c18, .slice A19 x14.Kept.length c20, .slice A21 x14.More.length c22] 34 :: fs) w) ?_ ?_
      ·skip
       refine wp_region_lit ?_
       refine mv F rfl fun a F => ?_
       refine qw F (r_ge (F.t 55 rfl) (F.ev (x := .const (.int .i64 100)) rfl)) fun a F => ?_
       refine mv F rfl fun a F => ?_
       by_cases c34 : x29 ≥ 100
       ·rw [if_pos c34] at k_32
        rw [decide_eq_true c34] at F
        refine mv F rfl fun a F => ?_
        refine qw F (r_lt (F.t 58 rfl) (F.ev (x := .const (.int .i64 300)) rfl)) fun a F => ?_
        refine qw F (r_pickT (F.t 57 rfl) (F.t 59 rfl)) fun a F => ?_
        refine wpList_nil ?_
        replace F := F.only [60, 3, 11, 12, 13, 14, 15, 16, 17] (l' := [(60, .bool (decide (x29 < 300))), (3, .int .u8 a3), (11, .bool x1), (12, .pointer (some ⟨g10, 0, none⟩)), (13, .int .i64 x11), (14, .pointer (some ⟨g23, 0, none⟩)), (15, .bool x15), (16, .int .i64 x24), (17, .int .i64 x29)]) rfl
        try dsimp only at k_32
        obtain rfl := Option.some.inj k_32
        exact ⟨_, rfl, F.only [3, 11, 12, 13, 14, 15, 16, 17, 60] rfl, H⟩
       ·rw [if_neg c34] at k_32
        rw [decide_eq_false c34] at F
        refine of_ F fun a F => ?_
        refine of_ F fun a F => ?_
        refine qw F (r_pickF (F.t 57 rfl) (F.ev (x := .const (.bool false)) rfl)) fun a F => ?_
        refine wpList_nil ?_
        replace F := F.only [60, 3, 11, 12, 13, 14, 15, 16, 17] (l' := [(60, .bool false), (3, .int .u8 a3), (11, .bool x1), (12, .pointer (some ⟨g10, 0, none⟩)), (13, .int .i64 x11), (14, .pointer (some ⟨g23, 0, none⟩)), (15, .bool x15), (16, .int .i64 x24), (17, .int .i64 x29)]) rfl
        try dsimp only at k_32
        obtain rfl := Option.some.inj k_32
        exact ⟨_, rfl, F.only [3, 11, 12, 13, 14, 15, 16, 17, 60] rfl, H⟩
      ·rintro a w ⟨x32, rfl, F, H⟩
       try dsimp only at h F H
       obtain ⟨o_35, k_35, h⟩ := Option.bind_eq_some_iff.1 h
       refine cut (fun a w => ∃ (x35 : Int), x35 = o_35 ∧ Fr 99 [] [(3, .int .u8 a3), (11, .bool x1), (12, .pointer (some ⟨g10, 0, none⟩)), (13, .int .i64 x11), (14, .pointer (some ⟨g23, 0, none⟩)), (15, .bool x15), (16, .int .i64 x24), (17, .int .i64 x35)] a ∧ Hp w0 (rd kByte A17 c18 x14.State :: rd (kSlice kByte) A19 c20 x14.Kept :: ps) (own (kSlice kByte) 23 A21 c22 x14.More :: obj_disk_Disk g10 x12 :: cel g23 [.int .i64 x14.Gen, .slice A17 x14.State.length c18, .slice A19 x14.Kept.length c20, .slice A21 x14.More.length c22] 34 :: fs) w) ?_ ?_
       ·skip
        by_cases c37 : x32 = true
        ·rw [if_pos c37] at k_35
         rw [c37] at F
         refine wp_cond_true (F.ev rfl) ?_
         refine wp_region_lit ?_
         refine as_ F (v := .int .i64 0) rfl fun a F => ?_
         refine wpList_nil ?_
         try dsimp only at k_35
         obtain rfl := Option.some.inj k_35
         exact ⟨_, rfl, F.only [3, 11, 12, 13, 14, 15, 16, 17] rfl, H⟩
        ·rw [if_neg c37] at k_35
         rw [Bool.eq_false_iff.2 c37] at F
         refine wp_cond_false (F.ev rfl) ?_
         refine wp_skip ?_
         try dsimp only at k_35
         obtain rfl := Option.some.inj k_35
         exact ⟨_, rfl, F.only [3, 11, 12, 13, 14, 15, 16, 17] rfl, H⟩
       ·rintro a w ⟨x35, rfl, F, H⟩
        try dsimp only at h F H
        refine rg ?_
        refine mv F rfl fun a F => ?_
        refine mv F rfl fun a F => ?_
        refine mv F rfl fun a F => ?_
        obtain ⟨x38, e39, h⟩ := Option.bind_eq_some_iff.1 h
        try dsimp only at h
        refine ls (call F Try.func22 (law15_Fill_ok (H) e39 ha3) rfl rfl fun v w hR a F => ?_)
        obtain ⟨A40, c41, rfl, H⟩ := hR
        replace H := (H).freeze
        obtain ⟨⟨x42, x43⟩, e44, h⟩ := Option.bind_eq_some_iff.1 h
        try dsimp only at h
        refine ls (call F Try.func21 (disk_Disk_Write_ok (H.p0.f2.f1.f2) e44) rfl rfl fun v w hR a F => ?_)
        obtain ⟨rfl, H⟩ := hR
        refine rgend ?_
        replace F := F.only [11, 12, 13, 14, 15, 16] (l' := [(11, .bool x1), (12, .pointer (some ⟨g10, 0, none⟩)), (13, .int .i64 x11), (14, .pointer (some ⟨g23, 0, none⟩)), (15, .bool x15), (16, .int .i64 x24)]) rfl
        refine rg ?_
        refine mv F rfl fun a F => ?_
        refine ls (lbs F H (e := 5) (vs := [(0, .int .u8 1)]) (cs := [.int .u8 1]) rfl (fun w => by kernel_rfl) fun g45 w a H F => ?_)
        refine ls (lbd F (vs := [(0, .int .i64 281474976710656), (2, .int .i64 1), (4, .slice (some ⟨g45, 0, none⟩) 1 1)]) (cs := [.int .i64 281474976710656, .int .i64 0, .int .i64 1, .int .i64 0, .slice (some ⟨g45, 0, none⟩) 1 1]) rfl (fun w => by kernel_rfl) fun a F => ?_)
        replace H := Hp.litRd (kd := kByte) (xs := [1]) (H) ((SayL.cons (kd := kByte) (c1 := [.int .u8 1]) (y := 1) (fun Z hp => ⟨rfl, (by decide)⟩) SayL.nil)) (Nat.le_of_ble_eq_true rfl)
        obtain ⟨x46, e47, h⟩ := Option.bind_eq_some_iff.1 h
        try dsimp only at h
        refine ls (call F Try.func23 (ref16_Put_ok (a0 := (⟨281474976710656, 0, 1, 0, [1]⟩ : api_Sector)) (H.p0) e47) rfl rfl fun v w hR a F => ?_)
        obtain ⟨A48, c49, rfl, H⟩ := hR
        obtain ⟨⟨x50, x51⟩, e52, h⟩ := Option.bind_eq_some_iff.1 h
        try dsimp only at h
        refine ls (call F Try.func21 (disk_Disk_Write_ok (H.p0) e52) rfl rfl fun v w hR a F => ?_)
        obtain ⟨rfl, H⟩ := hR
        refine rgend ?_
        replace F := F.only [11, 12, 13, 14, 15, 16] (l' := [(11, .bool x1), (12, .pointer (some ⟨g10, 0, none⟩)), (13, .int .i64 x11), (14, .pointer (some ⟨g23, 0, none⟩)), (15, .bool x15), (16, .int .i64 x24)]) rfl
        refine rg ?_
        refine mv F rfl fun a F => ?_
        obtain ⟨⟨x53, x54⟩, e55, h⟩ := Option.bind_eq_some_iff.1 h
        try dsimp only at h
        refine ls (call F Try.func12 (region_Read_ok (H) e55) rfl rfl fun v w hR a F => ?_)
        obtain ⟨A56, c57, A58, c59, A60, c61, rfl, H⟩ := hR
        refine mv F rfl fun a F => ?_
        refine qw F (r_ex (F.t 71 rfl) rfl) fun a F => ?_
        refine qw F (r_ex (F.t 71 rfl) rfl) fun a F => ?_
        refine ls (lal F H ti34 (cs := [.int .i64 0, .slice none 0 0, .slice none 0 0, .slice none 0 0]) rfl fun g62 w a H F => ?_)
        obtain ⟨_, hr, H⟩ := Hp.store (t := 34) (o := 0) (n := 4) (vs := [.int .i64 x53.Gen, .slice A56 x53.State.length c57, .slice A58 x53.Kept.length c59, .slice A60 x53.More.length c61]) (cs' := [.int .i64 x53.Gen, .slice A56 x53.State.length c57, .slice A58 x53.Kept.length c59, .slice A60 x53.More.length c61]) (H) (F.t 18 rfl) (F.t 74 rfl) rfl sz34 rfl (Nat.le_of_ble_eq_true rfl) rfl rfl
        refine ls (qn F (.inl rfl) (hr _ _ _ _) fun a F => ?_)
        refine as_ F rfl fun a F => ?_
        refine rgend ?_
        replace F := F.only [19, 18, 11, 12, 13, 14, 15, 16] (l' := [(19, .bool x54), (18, .pointer (some ⟨g62, 0, none⟩)), (11, .bool x1), (12, .pointer (some ⟨g10, 0, none⟩)), (13, .int .i64 x11), (14, .pointer (some ⟨g23, 0, none⟩)), (15, .bool x15), (16, .int .i64 x24)]) rfl
        refine wp_seq ?_
        obtain ⟨o_63, k_63, h⟩ := Option.bind_eq_some_iff.1 h
        refine cut (fun a w => ∃ (x63 : Bool), x63 = o_63 ∧ Fr 99 [] [(10, .bool x63)] a ∧ Hp w0 ps (obj_disk_Disk g10 x51 :: fs) w) ?_ ?_
        ·skip
         refine wp_region_lit ?_
         refine mv F rfl fun a F => ?_
         refine mv F rfl fun a F => ?_
         by_cases c65 : x1 = true
         ·rw [if_pos c65] at k_63
          rw [c65] at F
          refine mv F rfl fun a F => ?_
          refine mv F rfl fun a F => ?_
          refine qw F (r_beq (F.t 78 rfl) (F.t 79 rfl) Try.underlying4) fun a F => ?_
          refine qw F (r_pickT (F.t 77 rfl) (F.t 80 rfl)) fun a F => ?_
          refine mv F rfl fun a F => ?_
          by_cases c66 : (x15 == x54) = true
          ·rw [if_pos c66] at k_63
           rw [c66] at F
           refine mv F rfl fun a F => ?_
           refine mv F rfl fun a F => ?_
           refine qw F (r_eq (F.t 84 rfl) (F.ev (x := .const (.int .i64 0)) rfl)) fun a F => ?_
           refine qw F (r_beq (F.t 83 rfl) (F.t 85 rfl) Try.underlying4) fun a F => ?_
           refine qw F (r_pickT (F.t 82 rfl) (F.t 86 rfl)) fun a F => ?_
           refine mv F rfl fun a F => ?_
           by_cases c67 : ((x15 == (decide (x11 = 0)))) = true
           ·rw [if_pos c67] at k_63
            rw [c67] at F
            refine qw F (r_ldA (F.t 14 rfl) (cel_range (o := 0) (n := 4) (vs := [.int .i64 x14.Gen, .slice A17 x14.State.length c18, .slice A19 x14.Kept.length c20, .slice A21 x14.More.length c22]) (H.cell 4 rfl) rfl) agg34 rfl) fun a F => ?_
            refine qw F (r_ldA (F.t 18 rfl) (cel_range (o := 0) (n := 4) (vs := [.int .i64 x53.Gen, .slice A56 x53.State.length c57, .slice A58 x53.Kept.length c59, .slice A60 x53.More.length c61]) (H.cell 0 rfl) rfl) agg34 rfl) fun a F => ?_
            replace H := (H.f4.f3.f3.f3.f4).freeze
            replace H := (H.f3.f3.f2.f3).freeze
            obtain ⟨x68, e69, k_63⟩ := Option.bind_eq_some_iff.1 k_63
            try dsimp only at k_63
            refine ls (call F Try.func14 (ref17_Same_ok (a0 := x14) (a1 := x53) (H.p0.p4.p4.p4.p12.p12) e69) rfl rfl fun v w hR a F => ?_)
            obtain ⟨rfl, H⟩ := hR
            refine qw F (r_pickT (F.t 88 rfl) (F.t 91 rfl)) fun a F => ?_
            refine mv F rfl fun a F => ?_
            by_cases c70 : x68 = true
            ·rw [if_pos c70] at k_63
             rw [c70] at F
             refine mv F rfl fun a F => ?_
             obtain ⟨x71, e72, k_63⟩ := Option.bind_eq_some_iff.1 k_63
             try dsimp only at k_63
             refine ls (call F Try.func15 (region_Greatest_ok (H.f2.f1.f2) e72) rfl rfl fun v w hR a F => ?_)
             obtain ⟨rfl, H⟩ := hR
             refine mv F rfl fun a F => ?_
             refine qw F (r_eq (F.t 95 rfl) (F.t 96 rfl)) fun a F => ?_
             refine qw F (r_pickT (F.t 93 rfl) (F.t 97 rfl)) fun a F => ?_
             refine as_ F rfl fun a F => ?_
             refine wpList_nil ?_
             replace F := F.only [10] (l' := [(10, .bool (decide (x71 = x24)))]) rfl
             try dsimp only at k_63
             obtain rfl := Option.some.inj k_63
             exact ⟨_, rfl, F.only [10] rfl, H.px8.px7.px6.px5.px4.px3.px2.px1.px0.fx2.fx1⟩
            ·rw [if_neg c70] at k_63
             rw [Bool.eq_false_iff.2 c70] at F
             refine of_ F fun a F => ?_
             refine of_ F fun a F => ?_
             refine of_ F fun a F => ?_
             refine of_ F fun a F => ?_
             refine qw F (r_pickF (F.t 93 rfl) (F.ev (x := .const (.bool false)) rfl)) fun a F => ?_
             refine as_ F rfl fun a F => ?_
             refine wpList_nil ?_
             replace F := F.only [10] (l' := [(10, .bool false)]) rfl
             try dsimp only at k_63
             obtain rfl := Option.some.inj k_63
             exact ⟨_, rfl, F.only [10] rfl, H.px8.px7.px6.px5.px4.px3.px2.px1.px0.fx2.fx0⟩
           ·rw [if_neg c67] at k_63
            rw [Bool.eq_false_iff.2 c67] at F
            refine of_ F fun a F => ?_
            refine of_ F fun a F => ?_
            refine of_ F fun a F => ?_
            refine qw F (r_pickF (F.t 88 rfl) (F.ev (x := .const (.bool false)) rfl)) fun a F => ?_
            refine mv F rfl fun a F => ?_
            refine of_ F fun a F => ?_
            refine of_ F fun a F => ?_
            refine of_ F fun a F => ?_
            refine of_ F fun a F => ?_
            refine qw F (r_pickF (F.t 93 rfl) (F.ev (x := .const (.bool false)) rfl)) fun a F => ?_
            refine as_ F rfl fun a F => ?_
            refine wpList_nil ?_
            replace F := F.only [10] (l' := [(10, .bool false)]) rfl
            try dsimp only at k_63
            obtain rfl := Option.some.inj k_63
            exact ⟨_, rfl, F.only [10] rfl, H.px6.px5.px4.px3.px2.px1.px0.fx4.fx3.fx1.fx0⟩
          ·rw [if_neg c66] at k_63
           rw [Bool.eq_false_iff.2 c66] at F
           refine of_ F fun a F => ?_
           refine of_ F fun a F => ?_
           refine of_ F fun a F => ?_
           refine of_ F fun a F => ?_
           refine qw F (r_pickF (F.t 82 rfl) (F.ev (x := .const (.bool false)) rfl)) fun a F => ?_
           refine mv F rfl fun a F => ?_
           refine of_ F fun a F => ?_
           refine of_ F fun a F => ?_
           refine of_ F fun a F => ?_
           refine qw F (r_pickF (F.t 88 rfl) (F.ev (x := .const (.bool false)) rfl)) fun a F => ?_
           refine mv F rfl fun a F => ?_
           refine of_ F fun a F => ?_
           refine of_ F fun a F => ?_
           refine of_ F fun a F => ?_
           refine of_ F fun a F => ?_
           refine qw F (r_pickF (F.t 93 rfl) (F.ev (x := .const (.bool false)) rfl)) fun a F => ?_
           refine as_ F rfl fun a F => ?_
           refine wpList_nil ?_
           replace F := F.only [10] (l' := [(10, .bool false)]) rfl
           try dsimp only at k_63
           obtain rfl := Option.some.inj k_63
           exact ⟨_, rfl, F.only [10] rfl, H.px6.px5.px4.px3.px2.px1.px0.fx4.fx3.fx1.fx0⟩
         ·rw [if_neg c65] at k_63
          rw [Bool.eq_false_iff.2 c65] at F
          refine of_ F fun a F => ?_
          refine of_ F fun a F => ?_
          refine of_ F fun a F => ?_
          refine qw F (r_pickF (F.t 77 rfl) (F.ev (x := .const (.bool false)) rfl)) fun a F => ?_
          refine mv F rfl fun a F => ?_
          refine of_ F fun a F => ?_
          refine of_ F fun a F => ?_
          refine of_ F fun a F => ?_
          refine of_ F fun a F => ?_
          refine qw F (r_pickF (F.t 82 rfl) (F.ev (x := .const (.bool false)) rfl)) fun a F => ?_
          refine mv F rfl fun a F => ?_
          refine of_ F fun a F => ?_
          refine of_ F fun a F => ?_
          refine of_ F fun a F => ?_
          refine qw F (r_pickF (F.t 88 rfl) (F.ev (x := .const (.bool false)) rfl)) fun a F => ?_
          refine mv F rfl fun a F => ?_
          refine of_ F fun a F => ?_
          refine of_ F fun a F => ?_
          refine of_ F fun a F => ?_
          refine of_ F fun a F => ?_
          refine qw F (r_pickF (F.t 93 rfl) (F.ev (x := .const (.bool false)) rfl)) fun a F => ?_
          refine as_ F rfl fun a F => ?_
          refine wpList_nil ?_
          replace F := F.only [10] (l' := [(10, .bool false)]) rfl
          try dsimp only at k_63
          obtain rfl := Option.some.inj k_63
          exact ⟨_, rfl, F.only [10] rfl, H.px6.px5.px4.px3.px2.px1.px0.fx4.fx3.fx1.fx0⟩
        ·rintro a w ⟨x63, rfl, F, H⟩
         try dsimp only at h F H
         refine wp_ret ?_
         try dsimp only at h
         obtain rfl := Option.some.inj h
         exact RET _ _ (ret1 F rfl rfl ⟨_, rfl, rfl, H.fx0⟩)
end Go.Proofs.Ytdkdaggpfgajlaa
