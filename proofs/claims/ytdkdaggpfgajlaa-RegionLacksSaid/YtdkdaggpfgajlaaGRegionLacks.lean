/- What the functions compute. Printed by wip/gen. -/
import Derived.Test.YtdkdaggpfgajlaaGL
set_option linter.unusedVariables false
set_option linter.unusedSimpArgs false
namespace Go.Proofs.Ytdkdaggpfgajlaa
open Go Go.RowKit
def law17_RegionLacks_b1 (a4 : Int) (x75 : Int) : ((List Bool) × Int) → Option ((List Bool) × Int ⊕ List Bool)
 | (x83, x86) => (if x86 < x75 then (if 0 ≤ x86 ∧ x86 < (x83.length : Int) then some (.inl ((x83.set (x86 : Int).toNat (decide (x86 ≠ ((IntKind.i64.wrap a4).tmod x75)))), IntKind.i64.wrap (x86 + 1))) else none) else some (.inr x83))
def law17_RegionLacks_b0 (a0 : Int) (a1 : List Int) (a2 : List (List Int)) (a3 : List (List Int)) : (Int × disk_Disk × (List (List Int))) → Option (Int × disk_Disk × (List (List Int)) ⊕ disk_Disk × (List (List Int)))
 | (x21, x22, x23) => (if x21 < (a3.length : Int) then (if 0 ≤ x21 ∧ x21 < (a3.length : Int) then ((region_Put_f x22 0 300 (⟨a0, a1, a2, x23⟩ : api_Region) ((a3.getD (x21 : Int).toNat []))).bind fun (x38, x39) => (((if x38 = 0 then (if 0 ≤ x21 ∧ x21 < (a3.length : Int) then (if (0 + x23.length) * 24 ≤ 140737488355328 then (if (x23.length + 1) * 24 ≤ 140737488355328 then some (((x23 ++ ([(a3.getD (x21 : Int).toNat [])])))) else none) else none) else none) else some x23) : Option (List (List Int))).bind fun x41 => some (.inl (IntKind.i64.wrap (x21 + 1), x39, x41)))) else none) else some (.inr (x22, x23)))
def law17_RegionLacks_f (a0 : Int) (a1 : List Int) (a2 : List (List Int)) (a3 : List (List Int)) (a4 : Int) (a5 : Bool) : Option (Bool) :=
 ((law17_head_f).bind fun x1 => (if (a1.length : Int) > 3000 then some x1 else ((law17_Rows_f a2).bind fun x4 => (if x4 = true then some x1 else ((law17_Rows_f a3).bind fun x7 => (if x7 = true then some x1 else ((disk_New_f 300).bind fun x10 => match x10 with | none => some false | some x12 => ((region_Lay_f x12 0 300 a0 a1 a2).bind fun (x14, x15) => (if x14 ≠ 0 then some x1 else ((disk_Disk_Pending_f x15).bind fun x18 => ((lp (law17_RegionLacks_b0 a0 a1 a2 a3) (0, x15, [])).bind fun (x26, x27) => ((disk_Disk_Pending_f x26).bind fun x75 => (if x18 < 1 then some false else (if x75 ≠ (IntKind.i64.wrap (x18 + (x27.length : Int))) then some false else (if x75 > 300 then some false else (if x75 ≠ 0 then (if 0 ≤ x75 ∧ 1 * x75 ≤ 281474976710656 then ((lp (law17_RegionLacks_b1 a4 x75) (List.replicate (x75 : Int).toNat false, 0)).bind fun x87 => (((if a5 = true then ((disk_Disk_Crash_f x26 x87 ((IntKind.i64.wrap a4).tmod x75)).bind fun x100 => some x100) else ((disk_Disk_Crash_f x26 x87 (-1)).bind fun x102 => some x102)) : Option (disk_Disk)).bind fun x97 => ((region_Read_f x97 0 300).bind fun (x104, x105) => (if ((IntKind.i64.wrap a4).tmod x75) < x18 then (((if x1 = true then (if x105 = true then some false else ((ref17_Same_f x104 (⟨0, [], [], []⟩ : api_Region)).bind fun x119 => some x119)) else some false) : Option (Bool)).bind fun x115 => some x115) else (if 0 ≤ (0 : Int) ∧ (0 : Int) ≤ IntKind.i64.wrap (((IntKind.i64.wrap a4).tmod x75) - x18) ∧ IntKind.i64.wrap (((IntKind.i64.wrap a4).tmod x75) - x18) ≤ (x27.length : Int) then (((if x1 = true then (if x105 = true then ((ref17_Same_f x104 ((⟨a0, a1, a2, ((x27.take (IntKind.i64.wrap (((IntKind.i64.wrap a4).tmod x75) - x18)).toNat).drop ((0 : Int)).toNat)⟩ : api_Region))).bind fun x128 => some x128) else some false) else some false) : Option (Bool)).bind fun x124 => some x124) else none))))) else none) else none))))))))))))))))
set_option maxHeartbeats 4000000 in
set_option maxRecDepth 20000 in
theorem law17_RegionLacks_ok {w0 w : World} {ps : List PF} {fs : List SF} {a0 : Int} {a1 : List Int} {A1_ : Option Addr} {c1_ : Nat} {a2 : List (List Int)} {A2_ : Option Addr} {c2_ : Nat} {a3 : List (List Int)} {A3_ : Option Addr} {c3_ : Nat} {a4 : Int} {a5 : Bool} {r0 : Bool} (H : Hp w0 (rd kByte A1_ c1_ a1 :: rd (kSlice kByte) A2_ c2_ a2 :: rd (kSlice kByte) A3_ c3_ a3 :: ps) fs w) (h : law17_RegionLacks_f a0 a1 a2 a3 a4 a5 = some r0) (ha4 : 0 ≤ a4 ∧ a4 < 256) :
  Calls Try.prog 6 [.int .i64 a0, .slice A1_ a1.length c1_, .slice A2_ a2.length c2_, .slice A3_ a3.length c3_, .int .u8 a4, .bool a5].toArray w fun e w' => ∃ v, e = .returned v ∧ v = .bool r0 ∧ Hp w0 ps fs w' := by
 refine enter [.int .i64 a0, .slice A1_ a1.length c1_, .slice A2_ a2.length c2_, .slice A3_ a3.length c3_, .int .u8 a4, .bool a5] 154 Try.func6 fun Q a NP RET NRM F => ?_
 replace NP : ∀ c a w, ¬ Q (.panic c) a w := fun c a w h => by rcases NP c a w h with h | ⟨w, v, h, _⟩ <;> cases h
 unfold law17_RegionLacks_f at h
 refine rg ?_
 refine as_ F (v := .bool false) rfl fun a F => ?_
 refine rgend ?_
 refine rg ?_
 obtain ⟨x1, e2, h⟩ := Option.bind_eq_some_iff.1 h
 try dsimp only at h
 refine ls (call F Try.func9 (law17_head_ok (H) e2) rfl rfl fun v w hR a F => ?_)
 obtain ⟨rfl, H⟩ := hR
 refine as_ F rfl fun a F => ?_
 refine rgend ?_
 refine wp_seq ?_
 refine rg ?_
 refine mv F rfl fun a F => ?_
 refine qw F (r_len (F.t 25 rfl) Try.underlying23) fun a F => ?_
 refine qw F (r_gt (F.t 26 rfl) (F.ev (x := .const (.int .i64 3000)) rfl)) fun a F => ?_
 refine mv F rfl fun a F => ?_
 by_cases c3 : (a1.length : Int) > 3000
 ·rw [if_pos c3] at h
  rw [decide_eq_true c3] at F
  refine of_ F fun a F => ?_
  refine of_ F fun a F => ?_
  refine qw F (r_pickT (F.t 28 rfl) (F.ev (x := .const (.bool true)) rfl)) fun a F => ?_
  refine mv F rfl fun a F => ?_
  refine of_ F fun a F => ?_
  refine of_ F fun a F => ?_
  refine qw F (r_pickT (F.t 32 rfl) (F.ev (x := .const (.bool true)) rfl)) fun a F => ?_
  refine rgend ?_
  replace F := F.only [35, 13, 0, 1, 2, 3, 4, 5] (l' := [(35, .bool true), (13, .bool x1), (0, .int .i64 a0), (1, .slice A1_ a1.length c1_), (2, .slice A2_ a2.length c2_), (3, .slice A3_ a3.length c3_), (4, .int .u8 a4), (5, .bool a5)]) rfl
  refine wp_cond_true (F.ev rfl) ?_
  refine rg ?_
  refine mv F rfl fun a F => ?_
  refine as_ F rfl fun a F => ?_
  refine rgend ?_
  replace F := F.only [12] (l' := [(12, .bool x1)]) rfl
  refine wp_ret ?_
  try dsimp only at h
  obtain rfl := Option.some.inj h
  exact RET _ _ (ret1 F rfl rfl ⟨_, rfl, rfl, H.px2.px1.px0⟩)
 ·rw [if_neg c3] at h
  rw [decide_eq_false c3] at F
  refine mv F rfl fun a F => ?_
  obtain ⟨x4, e5, h⟩ := Option.bind_eq_some_iff.1 h
  try dsimp only at h
  refine ls (call F Try.func17 (law17_Rows_ok (H.p1) e5) rfl rfl fun v w hR a F => ?_)
  obtain ⟨rfl, H⟩ := hR
  refine qw F (r_pickF (F.t 28 rfl) (F.t 30 rfl)) fun a F => ?_
  refine mv F rfl fun a F => ?_
  by_cases c6 : x4 = true
  ·rw [if_pos c6] at h
   rw [c6] at F
   refine of_ F fun a F => ?_
   refine of_ F fun a F => ?_
   refine qw F (r_pickT (F.t 32 rfl) (F.ev (x := .const (.bool true)) rfl)) fun a F => ?_
   refine rgend ?_
   replace F := F.only [35, 13, 0, 1, 2, 3, 4, 5] (l' := [(35, .bool true), (13, .bool x1), (0, .int .i64 a0), (1, .slice A1_ a1.length c1_), (2, .slice A2_ a2.length c2_), (3, .slice A3_ a3.length c3_), (4, .int .u8 a4), (5, .bool a5)]) rfl
   refine wp_cond_true (F.ev rfl) ?_
   refine rg ?_
   refine mv F rfl fun a F => ?_
   refine as_ F rfl fun a F => ?_
   refine rgend ?_
   replace F := F.only [12] (l' := [(12, .bool x1)]) rfl
   refine wp_ret ?_
   try dsimp only at h
   obtain rfl := Option.some.inj h
   exact RET _ _ (ret1 F rfl rfl ⟨_, rfl, rfl, H.px2.px1.px0⟩)
  ·rw [if_neg c6] at h
   rw [Bool.eq_false_iff.2 c6] at F
   refine mv F rfl fun a F => ?_
   obtain ⟨x7, e8, h⟩ := Option.bind_eq_some_iff.1 h
   try dsimp only at h
   refine ls (call F Try.func17 (law17_Rows_ok (H.p2) e8) rfl rfl fun v w hR a F => ?_)
   obtain ⟨rfl, H⟩ := hR
   refine qw F (r_pickF (F.t 32 rfl) (F.t 34 rfl)) fun a F => ?_
   refine rgend ?_
   replace F := F.only [35, 13, 0, 1, 2, 3, 4, 5] (l' := [(35, .bool x7), (13, .bool x1), (0, .int .i64 a0), (1, .slice A1_ a1.length c1_), (2, .slice A2_ a2.length c2_), (3, .slice A3_ a3.length c3_), (4, .int .u8 a4), (5, .bool a5)]) rfl
   by_cases c9 : x7 = true
   ·rw [if_pos c9] at h
    rw [c9] at F
    refine wp_cond_true (F.ev rfl) ?_
    refine rg ?_
    refine mv F rfl fun a F => ?_
    refine as_ F rfl fun a F => ?_
    refine rgend ?_
    replace F := F.only [12] (l' := [(12, .bool x1)]) rfl
    refine wp_ret ?_
    try dsimp only at h
    obtain rfl := Option.some.inj h
    exact RET _ _ (ret1 F rfl rfl ⟨_, rfl, rfl, H.px2.px1.px0⟩)
   ·rw [if_neg c9] at h
    rw [Bool.eq_false_iff.2 c9] at F
    refine wp_cond_false (F.ev rfl) ?_
    refine wp_skip ?_
    refine rg ?_
    obtain ⟨x10, e11, h⟩ := Option.bind_eq_some_iff.1 h
    try dsimp only at h
    rcases x10 with _ | x12
    ·try dsimp only at h
     refine ls (call F Try.func18 (disk_New_ok (H) e11) rfl rfl fun v w hR a F => ?_)
     obtain ⟨rfl, H⟩ := hR
     refine as_ F rfl fun a F => ?_
     refine rgend ?_
     refine wp_seq ?_
     refine rg ?_
     refine mv F rfl fun a F => ?_
     refine qw F (r_peq0 (F.t 38 rfl) (F.ev (x := .const (.pointer none)) rfl) Try.underlying28) fun a F => ?_
     refine rgend ?_
     refine wp_cond_true (F.ev rfl) ?_
     refine rg ?_
     refine as_ F (v := .bool false) rfl fun a F => ?_
     refine rgend ?_
     replace F := F.only [12] (l' := [(12, .bool false)]) rfl
     refine wp_ret ?_
     try dsimp only at h
     obtain rfl := Option.some.inj h
     exact RET _ _ (ret1 F rfl rfl ⟨_, rfl, rfl, H.px2.px1.px0⟩)
    ·try dsimp only at h
     refine ls (call F Try.func18 (disk_New_ok (H) e11) rfl rfl fun v w hR a F => ?_)
     obtain ⟨g13, rfl, H⟩ := hR
     refine as_ F rfl fun a F => ?_
     refine rgend ?_
     refine wp_seq ?_
     refine rg ?_
     refine mv F rfl fun a F => ?_
     refine qw F (r_peq (F.t 38 rfl) (F.ev (x := .const (.pointer none)) rfl) Try.underlying28) fun a F => ?_
     refine rgend ?_
     refine wp_cond_false (F.ev rfl) ?_
     refine wp_skip ?_
     refine wp_seq ?_
     refine rg ?_
     refine mv F rfl fun a F => ?_
     refine mv F rfl fun a F => ?_
     refine mv F rfl fun a F => ?_
     refine mv F rfl fun a F => ?_
     obtain ⟨⟨x14, x15⟩, e16, h⟩ := Option.bind_eq_some_iff.1 h
     try dsimp only at h
     refine ls (call F Try.func19 (region_Lay_ok (H.p1.p1) e16) rfl rfl fun v w hR a F => ?_)
     obtain ⟨rfl, H⟩ := hR
     refine qw F (r_ne (F.t 44 rfl) (F.ev (x := .const (.int .i64 0)) rfl)) fun a F => ?_
     refine rgend ?_
     replace F := F.only [45, 14, 13, 0, 1, 2, 3, 4, 5] (l' := [(45, .bool (decide (x14 ≠ 0))), (14, .pointer (some ⟨g13, 0, none⟩)), (13, .bool x1), (0, .int .i64 a0), (1, .slice A1_ a1.length c1_), (2, .slice A2_ a2.length c2_), (3, .slice A3_ a3.length c3_), (4, .int .u8 a4), (5, .bool a5)]) rfl
     by_cases c17 : x14 ≠ 0
     ·rw [if_pos c17] at h
      rw [decide_eq_true c17] at F
      refine wp_cond_true (F.ev rfl) ?_
      refine rg ?_
      refine mv F rfl fun a F => ?_
      refine as_ F rfl fun a F => ?_
      refine rgend ?_
      replace F := F.only [12] (l' := [(12, .bool x1)]) rfl
      refine wp_ret ?_
      try dsimp only at h
      obtain rfl := Option.some.inj h
      exact RET _ _ (ret1 F rfl rfl ⟨_, rfl, rfl, H.px2.px1.px0.fx0⟩)
     ·rw [if_neg c17] at h
      rw [decide_eq_false c17] at F
      refine wp_cond_false (F.ev rfl) ?_
      refine wp_skip ?_
      refine rg ?_
      refine mv F rfl fun a F => ?_
      obtain ⟨x18, e19, h⟩ := Option.bind_eq_some_iff.1 h
      try dsimp only at h
      refine ls (call F Try.func24 (disk_Disk_Pending_ok (H) e19) rfl rfl fun v w hR a F => ?_)
      obtain ⟨rfl, H⟩ := hR
      refine as_ F rfl fun a F => ?_
      refine rgend ?_
      refine rg ?_
      refine mv F rfl fun a F => ?_
      refine mv F rfl fun a F => ?_
      refine mv F rfl fun a F => ?_
      refine ls (lbd F (vs := [(0, .int .i64 a0), (1, .slice A1_ a1.length c1_), (2, .slice A2_ a2.length c2_)]) (cs := [.int .i64 a0, .slice A1_ a1.length c1_, .slice A2_ a2.length c2_, .slice none 0 0]) rfl (fun w => by kernel_rfl) fun a F => ?_)
      refine ls (lal F H ti34 (cs := [.int .i64 0, .slice none 0 0, .slice none 0 0, .slice none 0 0]) rfl fun g20 w a H F => ?_)
      obtain ⟨_, hr, H⟩ := Hp.store (t := 34) (o := 0) (n := 4) (vs := [.int .i64 a0, .slice A1_ a1.length c1_, .slice A2_ a2.length c2_, .slice none 0 0]) (cs' := [.int .i64 a0, .slice A1_ a1.length c1_, .slice A2_ a2.length c2_, .slice none 0 0]) (H) (F.t 16 rfl) (F.t 52 rfl) rfl sz34 rfl (Nat.le_of_ble_eq_true rfl) rfl rfl
      refine ls (qn F (.inl rfl) (hr _ _ _ _) fun a F => ?_)
      refine rgend ?_
      replace F := F.only [16, 15, 14, 13, 3, 4, 5] (l' := [(16, .pointer (some ⟨g20, 0, none⟩)), (15, .int .i64 x18), (14, .pointer (some ⟨g13, 0, none⟩)), (13, .bool x1), (3, .slice A3_ a3.length c3_), (4, .int .u8 a4), (5, .bool a5)]) rfl
      refine wp_seq ?_
      refine rg ?_
      refine as_ F (v := .int .i64 0) rfl fun a F => ?_
      refine rgend ?_
      replace H := H.nilOwn (kSlice kByte) 23
      obtain ⟨o_29, k_29, h⟩ := Option.bind_eq_some_iff.1 h
      refine cut (fun a w => ∃ (x26 : disk_Disk) (x27 : List (List Int)), (x26, x27) = o_29 ∧ ∃ (A28 : Option Addr) (c29 : Nat), Fr 154 [] [(4, .int .u8 a4), (5, .bool a5), (13, .bool x1), (14, .pointer (some ⟨g13, 0, none⟩)), (15, .int .i64 x18), (16, .pointer (some ⟨g20, 0, none⟩))] a ∧ Hp w0 (rd kByte A1_ c1_ a1 :: rd (kSlice kByte) A2_ c2_ a2 :: ps) (own (kSlice kByte) 23 A28 c29 x27 :: obj_disk_Disk g13 x26 :: cel g20 [.int .i64 a0, .slice A1_ a1.length c1_, .slice A2_ a2.length c2_, .slice A28 x27.length c29] 34 :: fs) w) (wp_block ?_) ?_
      ·refine wloop (law17_RegionLacks_b0 a0 a1 a2 a3) (fun (s : Int × disk_Disk × (List (List Int))) a w => ∃ (A24 : Option Addr) (c25 : Nat), Fr 154 [] [(3, .slice A3_ a3.length c3_), (4, .int .u8 a4), (5, .bool a5), (13, .bool x1), (14, .pointer (some ⟨g13, 0, none⟩)), (15, .int .i64 x18), (16, .pointer (some ⟨g20, 0, none⟩)), (17, .int .i64 s.1)] a ∧ Hp w0 (rd (kSlice kByte) A3_ c3_ a3 :: rd kByte A1_ c1_ a1 :: rd (kSlice kByte) A2_ c2_ a2 :: ps) (own (kSlice kByte) 23 A24 c25 s.2.2 :: obj_disk_Disk g13 s.2.1 :: cel g20 [.int .i64 a0, .slice A1_ a1.length c1_, .slice A2_ a2.length c2_, .slice A24 s.2.2.length c25] 34 :: fs) w) k_29 ⟨none, 0, F.only [3, 4, 5, 13, 14, 15, 16, 17] rfl, H.p1.p1.p4.px3.px3.px3.f1.f2.f2⟩ ?_
       rintro ⟨x21, x22, x23⟩ a w q_29 j_29 u_29 ⟨A24, c25, F, H⟩
       unfold law17_RegionLacks_b0 at j_29
       try dsimp only at j_29 F H
       refine wp_seq ?_
       refine rg ?_
       refine mv F rfl fun a F => ?_
       refine mv F rfl fun a F => ?_
       refine qw F (r_len (F.t 54 rfl) Try.underlying32) fun a F => ?_
       refine qw F (r_lt (F.t 53 rfl) (F.t 55 rfl)) fun a F => ?_
       refine rgend ?_
       by_cases c31 : x21 < (a3.length : Int)
       ·rw [if_pos c31] at j_29
        rw [decide_eq_true c31] at F
        refine wp_cond_true (F.ev rfl) ?_
        refine wp_skip ?_
        refine wp_seq ?_
        refine wp_block ?_
        refine wp_seq ?_
        replace H := H.drew
        have HS := H.fx1.fx0
        refine dr (fun w => Hp w0 (rd (kSlice kByte) A3_ c3_ a3 :: rd kByte A1_ c1_ a1 :: rd (kSlice kByte) A2_ c2_ a2 :: ps) (cel g20 [.int .i64 a0, .slice A1_ a1.length c1_, .slice A2_ a2.length c2_, .slice A24 x23.length c25] 34 :: fs) w) _ (by kernel_rfl) ?_ (n := 8)
        refine dq 0 F rfl (by kernel_rfl) NP HS (fun w S => (r_mv (F.t 14 rfl))) fun a F => ?_
        refine dq 1 F rfl (by kernel_rfl) NP HS (fun w S => (r_ldA (F.t 16 rfl) (cel_range (o := 0) (n := 4) (vs := [.int .i64 a0, .slice A1_ a1.length c1_, .slice A2_ a2.length c2_, .slice A24 x23.length c25]) (S.cell 0 rfl) rfl) agg34 rfl)) fun a F => ?_
        refine dq 2 F rfl (by kernel_rfl) NP HS (fun w S => (r_mv (F.t 3 rfl))) fun a F => ?_
        refine dq 3 F rfl (by kernel_rfl) NP HS (fun w S => (r_mv (F.t 17 rfl))) fun a F => ?_
        obtain ⟨c32, j_29⟩ := guardO j_29
        obtain ⟨g33, o34, s35, hr, H⟩ := H.ix [] 0 rfl (F.t 61 rfl) (F.t 62 rfl) Try.underlying32 sz23 (by decide) c32.1 c32.2
        obtain ⟨A36, c37, rfl, H⟩ := H.says_slice 1 rfl
        have HS := H.fx1.fx0
        refine dmoreH HS (fun w S => S.px2.px1.px0) ?_
        refine dq 4 F rfl (by kernel_rfl) NP HS (fun w S => (hr _ _ _ _ _ _)) fun a F => ?_
        refine dq 5 F rfl (by kernel_rfl) NP HS (fun w S => (r_ld (F.t 63 rfl) (range_cell (j := 0) (S.range 1 rfl) rfl) one23)) fun a F => ?_
        obtain ⟨⟨x38, x39⟩, e40, j_29⟩ := Option.bind_eq_some_iff.1 j_29
        try dsimp only at j_29
        refine d1 6 rfl (by kernel_rfl) (call F Try.func20 (region_Put_ok (a3 := (⟨a0, a1, a2, x23⟩ : api_Region)) (H.p0.f2.f1.f2) e40) rfl rfl fun v w hR a F => ?_)
        obtain ⟨rfl, H⟩ := hR
        have HS := H.fx1.fx0
        refine kg _ HS (fun w S => S) ?_
        refine dq 7 F rfl (by kernel_rfl) NP HS (fun w S => (r_eq (F.t 65 rfl) (F.ev (x := .const (.int .i64 0)) rfl))) fun a F => ?_
        refine ddone (by kernel_rfl) ?_
        replace F := F.only [66, 3, 4, 5, 13, 14, 15, 16, 17] (l' := [(66, .bool (decide (x38 = 0))), (3, .slice A3_ a3.length c3_), (4, .int .u8 a4), (5, .bool a5), (13, .bool x1), (14, .pointer (some ⟨g13, 0, none⟩)), (15, .int .i64 x18), (16, .pointer (some ⟨g20, 0, none⟩)), (17, .int .i64 x21)]) rfl
        obtain ⟨o_43, k_43, j_29⟩ := Option.bind_eq_some_iff.1 j_29
        refine cut (fun a w => ∃ (x41 : List (List Int)), x41 = o_43 ∧ ∃ (A42 : Option Addr) (c43 : Nat), Fr 154 [] [(3, .slice A3_ a3.length c3_), (4, .int .u8 a4), (5, .bool a5), (13, .bool x1), (14, .pointer (some ⟨g13, 0, none⟩)), (15, .int .i64 x18), (16, .pointer (some ⟨g20, 0, none⟩)), (17, .int .i64 x21)] a ∧ Hp w0 (rd (kSlice kByte) A3_ c3_ a3 :: rd kByte A1_ c1_ a1 :: rd (kSlice kByte) A2_ c2_ a2 :: ps) (own (kSlice kByte) 23 A42 c43 x41 :: obj_disk_Disk g13 x39 :: cel g20 [.int .i64 a0, .slice A1_ a1.length c1_, .slice A2_ a2.length c2_, .slice A42 x41.length c43] 34 :: fs) w) ?_ ?_
        ·skip
         by_cases c45 : x38 = 0
         ·rw [if_pos c45] at k_43
          rw [decide_eq_true c45] at F
          refine wp_cond_true (F.ev rfl) ?_
          replace H := H.drew
          have HS := H.fx1.fx0
          refine dr (fun w => Hp w0 (rd kByte A36 c37 ((a3.getD (x21 : Int).toNat [])) :: celz g33 o34 [.slice A36 ((a3.getD (x21 : Int).toNat [])).length c37] :: says (kSlice kByte) [.slice A36 ((a3.getD (x21 : Int).toNat [])).length c37] ((a3.getD (x21 : Int).toNat [])) :: rd (kSlice kByte) A3_ c3_ a3 :: rd kByte A1_ c1_ a1 :: rd (kSlice kByte) A2_ c2_ a2 :: ps) (cel g20 [.int .i64 a0, .slice A1_ a1.length c1_, .slice A2_ a2.length c2_, .slice A24 x23.length c25] 34 :: fs) w) _ (by kernel_rfl) ?_ (n := 12)
          refine dq 1 F rfl (by kernel_rfl) NP HS (fun w S => (r_fa (off := 3) (F.t 16 rfl) fa34_3)) fun a F => ?_
          refine dq 2 F rfl (by kernel_rfl) NP HS (fun w S => (r_ld (F.t 68 rfl) (cel_cell (o := 3) (S.cell 0 rfl) rfl) one32)) fun a F => ?_
          refine dq 4 F rfl (by kernel_rfl) NP HS (fun w S => (r_mv (F.t 3 rfl))) fun a F => ?_
          refine dq 5 F rfl (by kernel_rfl) NP HS (fun w S => (r_mv (F.t 17 rfl))) fun a F => ?_
          obtain ⟨c46, k_43⟩ := guardO k_43
          obtain ⟨g47, o48, s49, hr, H⟩ := H.ix [] 3 rfl (F.t 71 rfl) (F.t 72 rfl) Try.underlying32 sz23 (by decide) c46.1 c46.2
          obtain ⟨A50, c51, rfl, H⟩ := H.says_slice 1 rfl
          have HS := H.fx1.fx0
          refine dmoreH HS (fun w S => S.px2.px1.px0) ?_
          refine dq 6 F rfl (by kernel_rfl) NP HS (fun w S => (hr _ _ _ _ _ _)) fun a F => ?_
          refine dq 7 F rfl (by kernel_rfl) NP HS (fun w S => (r_ld (F.t 73 rfl) (range_cell (j := 0) (S.range 1 rfl) rfl) one23)) fun a F => ?_
          refine d2 0 8 rfl rfl (by kernel_rfl) ?_ ?_
          ·skip
           refine lbs F H (e := 23) (vs := []) (cs := []) rfl (fun w => by kernel_rfl) fun g52 w a H F => ?_
           have HS := H.fx2.fx1.fx0
           refine kg _ HS (fun w S => S) ?_
           refine d2 3 8 rfl rfl (by kernel_rfl) ?_ ?_
           ·skip
            replace H := Hp.litOwn (kd := (kSlice kByte)) (xs := []) (H) (SayL.nil) (Nat.le_of_ble_eq_true rfl)
            obtain ⟨c53, k_43⟩ := guardO k_43
            replace H := (H.f3.f2.f2.f3).freeze
            obtain ⟨A54, c55, _, hr, H⟩ := Hp.appendRd (kd := (kSlice kByte)) (xs := []) (ys := x23) (H) 0 rfl (F.t 67 rfl) (F.t 69 rfl) Try.underlying32 ti23 rfl (by decide) (by decide) c53
            rw [List.nil_append] at hr H
            refine qv F (hr _ _ _ _ _) fun a F => ?_
            have HS := H.fx1.fx0
            refine kg _ HS (fun w S => S.px0) ?_
            refine d1 8 rfl (by kernel_rfl) (lbs F H (e := 23) (vs := [(0, .slice A50 ((a3.getD (x21 : Int).toNat [])).length c51)]) (cs := [.slice A50 ((a3.getD (x21 : Int).toNat [])).length c51]) rfl (fun w => by kernel_rfl) fun g56 w a H F => ?_)
            have HS := H.fx2.fx1.fx0
            refine kg _ HS (fun w S => S) ?_
            obtain ⟨c57, k_43⟩ := guardO k_43
            obtain ⟨A58, c59, _, hr, H⟩ := Hp.appendCelL (kd := (kSlice kByte)) (xs := x23) (ys := [(a3.getD (x21 : Int).toNat [])]) (H.f3.f3.f2.f3) (F.t 70 rfl) (F.t 75 rfl) Try.underlying32 ti23 rfl (by decide) (by decide) rfl ((SayL.cons (kd := (kSlice kByte)) (c1 := [.slice A50 ((a3.getD (x21 : Int).toNat [])).length c51]) (y := (a3.getD (x21 : Int).toNat [])) (fun Z hp => ⟨A50, c51, rfl, pat hp 1 rfl⟩) SayL.nil)) c57
            refine d1 9 rfl (by kernel_rfl) (qv F (hr _ _ _ _ _) fun a F => ?_)
            have HS := H.fx1.fx0
            refine kg _ HS (fun w S => S) ?_
            refine dq 10 F rfl (by kernel_rfl) NP HS (fun w S => (r_fa (off := 3) (F.t 16 rfl) fa34_3)) fun a F => ?_
            obtain ⟨_, hr, H⟩ := Hp.store (t := 32) (o := 3) (n := 1) (vs := [.slice A58 ((x23 ++ ([(a3.getD (x21 : Int).toNat [])]))).length c59]) (cs' := [.int .i64 a0, .slice A1_ a1.length c1_, .slice A2_ a2.length c2_, .slice A58 ((x23 ++ ([(a3.getD (x21 : Int).toNat [])]))).length c59]) (H.f1.f1.f2) (F.t 77 rfl) (F.t 76 rfl) rfl sz32 rfl (Nat.le_of_ble_eq_true rfl) rfl rfl
            refine d1 11 rfl (by kernel_rfl) (qn F (.inl rfl) (hr _ _ _ _) fun a F => ?_)
            have HS := H.fx2.fx1
            refine kga (by kernel_rfl) HS ?_
            refine ddone (by kernel_rfl) ?_
            replace F := F.only [3, 4, 5, 13, 14, 15, 16, 17] (l' := [(3, .slice A3_ a3.length c3_), (4, .int .u8 a4), (5, .bool a5), (13, .bool x1), (14, .pointer (some ⟨g13, 0, none⟩)), (15, .int .i64 x18), (16, .pointer (some ⟨g20, 0, none⟩)), (17, .int .i64 x21)]) rfl
            try dsimp only at k_43
            obtain rfl := Option.some.inj k_43
            exact ⟨_, rfl, A58, c59, F.only [3, 4, 5, 13, 14, 15, 16, 17] rfl, H.px6.px5.px4.px3.px2.px1.px0.f2.f2⟩
           ·skip
            refine lbs F H (e := 23) (vs := [(0, .slice A50 ((a3.getD (x21 : Int).toNat [])).length c51)]) (cs := [.slice A50 ((a3.getD (x21 : Int).toNat [])).length c51]) rfl (fun w => by kernel_rfl) fun g60 w a H F => ?_
            have HS := H.fx3.fx2.fx1.fx0
            refine kg _ HS (fun w S => S) ?_
            replace H := Hp.litOwn (kd := (kSlice kByte)) (xs := []) (H.f4.f4.f4.f3.f4) (SayL.nil) (Nat.le_of_ble_eq_true rfl)
            obtain ⟨c61, k_43⟩ := guardO k_43
            replace H := (H.f4.f3.f3.f3.f4).freeze
            obtain ⟨A62, c63, _, hr, H⟩ := Hp.appendRd (kd := (kSlice kByte)) (xs := []) (ys := x23) (H) 0 rfl (F.t 67 rfl) (F.t 69 rfl) Try.underlying32 ti23 rfl (by decide) (by decide) c61
            rw [List.nil_append] at hr H
            refine d1 3 rfl (by kernel_rfl) (qv F (hr _ _ _ _ _) fun a F => ?_)
            have HS := H.fx2.fx1.fx0
            refine kg _ HS (fun w S => S.px0) ?_
            obtain ⟨c64, k_43⟩ := guardO k_43
            obtain ⟨A65, c66, _, hr, H⟩ := Hp.appendCelL (kd := (kSlice kByte)) (xs := x23) (ys := [(a3.getD (x21 : Int).toNat [])]) (H) (F.t 70 rfl) (F.t 75 rfl) Try.underlying32 ti23 rfl (by decide) (by decide) rfl ((SayL.cons (kd := (kSlice kByte)) (c1 := [.slice A50 ((a3.getD (x21 : Int).toNat [])).length c51]) (y := (a3.getD (x21 : Int).toNat [])) (fun Z hp => ⟨A50, c51, rfl, pat hp 1 rfl⟩) SayL.nil)) c64
            refine d1 9 rfl (by kernel_rfl) (qv F (hr _ _ _ _ _) fun a F => ?_)
            have HS := H.fx1.fx0
            refine kg _ HS (fun w S => S) ?_
            refine dq 10 F rfl (by kernel_rfl) NP HS (fun w S => (r_fa (off := 3) (F.t 16 rfl) fa34_3)) fun a F => ?_
            obtain ⟨_, hr, H⟩ := Hp.store (t := 32) (o := 3) (n := 1) (vs := [.slice A65 ((x23 ++ ([(a3.getD (x21 : Int).toNat [])]))).length c66]) (cs' := [.int .i64 a0, .slice A1_ a1.length c1_, .slice A2_ a2.length c2_, .slice A65 ((x23 ++ ([(a3.getD (x21 : Int).toNat [])]))).length c66]) (H.f1.f1.f2) (F.t 77 rfl) (F.t 76 rfl) rfl sz32 rfl (Nat.le_of_ble_eq_true rfl) rfl rfl
            refine d1 11 rfl (by kernel_rfl) (qn F (.inl rfl) (hr _ _ _ _) fun a F => ?_)
            have HS := H.fx2.fx1
            refine kga (by kernel_rfl) HS ?_
            refine ddone (by kernel_rfl) ?_
            replace F := F.only [3, 4, 5, 13, 14, 15, 16, 17] (l' := [(3, .slice A3_ a3.length c3_), (4, .int .u8 a4), (5, .bool a5), (13, .bool x1), (14, .pointer (some ⟨g13, 0, none⟩)), (15, .int .i64 x18), (16, .pointer (some ⟨g20, 0, none⟩)), (17, .int .i64 x21)]) rfl
            try dsimp only at k_43
            obtain rfl := Option.some.inj k_43
            exact ⟨_, rfl, A65, c66, F.only [3, 4, 5, 13, 14, 15, 16, 17] rfl, H.px6.px5.px4.px3.px2.px1.px0.f2.f2⟩
          ·skip
           refine lbs F H (e := 23) (vs := [(0, .slice A50 ((a3.getD (x21 : Int).toNat [])).length c51)]) (cs := [.slice A50 ((a3.getD (x21 : Int).toNat [])).length c51]) rfl (fun w => by kernel_rfl) fun g67 w a H F => ?_
           have HS := H.fx2.fx1.fx0
           refine kg _ HS (fun w S => S) ?_
           refine d1 0 rfl (by kernel_rfl) (lbs F H (e := 23) (vs := []) (cs := []) rfl (fun w => by kernel_rfl) fun g68 w a H F => ?_)
           have HS := H.fx3.fx2.fx1.fx0
           refine kg _ HS (fun w S => S) ?_
           replace H := Hp.litOwn (kd := (kSlice kByte)) (xs := []) (H) (SayL.nil) (Nat.le_of_ble_eq_true rfl)
           obtain ⟨c69, k_43⟩ := guardO k_43
           replace H := (H.f4.f3.f3.f3.f4).freeze
           obtain ⟨A70, c71, _, hr, H⟩ := Hp.appendRd (kd := (kSlice kByte)) (xs := []) (ys := x23) (H) 0 rfl (F.t 67 rfl) (F.t 69 rfl) Try.underlying32 ti23 rfl (by decide) (by decide) c69
           rw [List.nil_append] at hr H
           refine d1 3 rfl (by kernel_rfl) (qv F (hr _ _ _ _ _) fun a F => ?_)
           have HS := H.fx2.fx1.fx0
           refine kg _ HS (fun w S => S.px0) ?_
           obtain ⟨c72, k_43⟩ := guardO k_43
           obtain ⟨A73, c74, _, hr, H⟩ := Hp.appendCelL (kd := (kSlice kByte)) (xs := x23) (ys := [(a3.getD (x21 : Int).toNat [])]) (H) (F.t 70 rfl) (F.t 75 rfl) Try.underlying32 ti23 rfl (by decide) (by decide) rfl ((SayL.cons (kd := (kSlice kByte)) (c1 := [.slice A50 ((a3.getD (x21 : Int).toNat [])).length c51]) (y := (a3.getD (x21 : Int).toNat [])) (fun Z hp => ⟨A50, c51, rfl, pat hp 1 rfl⟩) SayL.nil)) c72
           refine d1 9 rfl (by kernel_rfl) (qv F (hr _ _ _ _ _) fun a F => ?_)
           have HS := H.fx1.fx0
           refine kg _ HS (fun w S => S) ?_
           refine dq 10 F rfl (by kernel_rfl) NP HS (fun w S => (r_fa (off := 3) (F.t 16 rfl) fa34_3)) fun a F => ?_
           obtain ⟨_, hr, H⟩ := Hp.store (t := 32) (o := 3) (n := 1) (vs := [.slice A73 ((x23 ++ ([(a3.getD (x21 : Int).toNat [])]))).length c74]) (cs' := [.int .i64 a0, .slice A1_ a1.length c1_, .slice A2_ a2.length c2_, .slice A73 ((x23 ++ ([(a3.getD (x21 : Int).toNat [])]))).length c74]) (H.f1.f1.f2) (F.t 77 rfl) (F.t 76 rfl) rfl sz32 rfl (Nat.le_of_ble_eq_true rfl) rfl rfl
           refine d1 11 rfl (by kernel_rfl) (qn F (.inl rfl) (hr _ _ _ _) fun a F => ?_)
           have HS := H.fx2.fx1
           refine kga (by kernel_rfl) HS ?_
           refine ddone (by kernel_rfl) ?_
           replace F := F.only [3, 4, 5, 13, 14, 15, 16, 17] (l' := [(3, .slice A3_ a3.length c3_), (4, .int .u8 a4), (5, .bool a5), (13, .bool x1), (14, .pointer (some ⟨g13, 0, none⟩)), (15, .int .i64 x18), (16, .pointer (some ⟨g20, 0, none⟩)), (17, .int .i64 x21)]) rfl
           try dsimp only at k_43
           obtain rfl := Option.some.inj k_43
           exact ⟨_, rfl, A73, c74, F.only [3, 4, 5, 13, 14, 15, 16, 17] rfl, H.px6.px5.px4.px3.px2.px1.px0.f2.f2⟩
         ·rw [if_neg c45] at k_43
          rw [decide_eq_false c45] at F
          refine wp_cond_false (F.ev rfl) ?_
          refine wp_skip ?_
          try dsimp only at k_43
          obtain rfl := Option.some.inj k_43
          exact ⟨_, rfl, A24, c25, F.only [3, 4, 5, 13, 14, 15, 16, 17] rfl, H.px2.px1.px0.f2.f1.f2⟩
        ·rintro a w ⟨x41, rfl, A42, c43, F, H⟩
         try dsimp only at j_29 F H
         refine wp_region_lit ?_
         refine mv F rfl fun a F => ?_
         refine qw F (r_add (F.t 57 rfl) (F.ev (x := .const (.int .i64 1)) rfl)) fun a F => ?_
         refine as_ F rfl fun a F => ?_
         refine wpList_nil ?_
         try dsimp only at j_29
         obtain rfl := Option.some.inj j_29
         exact ⟨_, rfl, A42, c43, F.only [3, 4, 5, 13, 14, 15, 16, 17] rfl, H⟩
       ·rw [if_neg c31] at j_29
        rw [decide_eq_false c31] at F
        refine wp_cond_false (F.ev rfl) ?_
        refine wp_exit ?_
        try dsimp only at j_29
        obtain rfl := Option.some.inj j_29
        obtain rfl := u_29 _ rfl
        repeat (with_reducible refine exT ?_)
        with_reducible refine exB ?_
        exact ⟨_, _, rfl, A24, c25, F.only [4, 5, 13, 14, 15, 16] rfl, H.px0⟩
      ·rintro a w ⟨x26, x27, rfl, A28, c29, F, H⟩
       try dsimp only at h F H
       refine rg ?_
       refine mv F rfl fun a F => ?_
       obtain ⟨x75, e76, h⟩ := Option.bind_eq_some_iff.1 h
       try dsimp only at h
       refine ls (call F Try.func24 (disk_Disk_Pending_ok (H.f2.f1.f2) e76) rfl rfl fun v w hR a F => ?_)
       obtain ⟨rfl, H⟩ := hR
       refine as_ F rfl fun a F => ?_
       refine rgend ?_
       refine wp_seq ?_
       refine rg ?_
       refine mv F rfl fun a F => ?_
       refine qw F (r_lt (F.t 80 rfl) (F.ev (x := .const (.int .i64 1)) rfl)) fun a F => ?_
       refine mv F rfl fun a F => ?_
       by_cases c77 : x18 < 1
       ·rw [if_pos c77] at h
        rw [decide_eq_true c77] at F
        refine of_ F fun a F => ?_
        refine of_ F fun a F => ?_
        refine of_ F fun a F => ?_
        refine of_ F fun a F => ?_
        refine of_ F fun a F => ?_
        refine of_ F fun a F => ?_
        refine of_ F fun a F => ?_
        refine qw F (r_pickT (F.t 82 rfl) (F.ev (x := .const (.bool true)) rfl)) fun a F => ?_
        refine mv F rfl fun a F => ?_
        refine of_ F fun a F => ?_
        refine of_ F fun a F => ?_
        refine qw F (r_pickT (F.t 91 rfl) (F.ev (x := .const (.bool true)) rfl)) fun a F => ?_
        refine rgend ?_
        replace F := F.only [94, 18, 4, 5, 13, 14, 15, 16] (l' := [(94, .bool true), (18, .int .i64 x75), (4, .int .u8 a4), (5, .bool a5), (13, .bool x1), (14, .pointer (some ⟨g13, 0, none⟩)), (15, .int .i64 x18), (16, .pointer (some ⟨g20, 0, none⟩))]) rfl
        refine wp_cond_true (F.ev rfl) ?_
        refine rg ?_
        refine as_ F (v := .bool false) rfl fun a F => ?_
        refine rgend ?_
        replace F := F.only [12] (l' := [(12, .bool false)]) rfl
        refine wp_ret ?_
        try dsimp only at h
        obtain rfl := Option.some.inj h
        exact RET _ _ (ret1 F rfl rfl ⟨_, rfl, rfl, H.px1.px0.fx2.fx1.fx0⟩)
       ·rw [if_neg c77] at h
        rw [decide_eq_false c77] at F
        refine mv F rfl fun a F => ?_
        refine mv F rfl fun a F => ?_
        refine qw F (r_fa (off := 3) (F.t 16 rfl) fa34_3) fun a F => ?_
        refine qw F (r_ld (F.t 85 rfl) (cel_cell (o := 3) (H.cell 2 rfl) rfl) one32) fun a F => ?_
        refine qw F (r_len (F.t 86 rfl) Try.underlying32) fun a F => ?_
        refine qw F (r_add (F.t 84 rfl) (F.t 87 rfl)) fun a F => ?_
        refine qw F (r_ne (F.t 83 rfl) (F.t 88 rfl)) fun a F => ?_
        refine qw F (r_pickF (F.t 82 rfl) (F.t 89 rfl)) fun a F => ?_
        refine mv F rfl fun a F => ?_
        by_cases c78 : x75 ≠ (IntKind.i64.wrap (x18 + (x27.length : Int)))
        ·rw [if_pos c78] at h
         rw [decide_eq_true c78] at F
         refine of_ F fun a F => ?_
         refine of_ F fun a F => ?_
         refine qw F (r_pickT (F.t 91 rfl) (F.ev (x := .const (.bool true)) rfl)) fun a F => ?_
         refine rgend ?_
         replace F := F.only [94, 18, 4, 5, 13, 14, 15, 16] (l' := [(94, .bool true), (18, .int .i64 x75), (4, .int .u8 a4), (5, .bool a5), (13, .bool x1), (14, .pointer (some ⟨g13, 0, none⟩)), (15, .int .i64 x18), (16, .pointer (some ⟨g20, 0, none⟩))]) rfl
         refine wp_cond_true (F.ev rfl) ?_
         refine rg ?_
         refine as_ F (v := .bool false) rfl fun a F => ?_
         refine rgend ?_
         replace F := F.only [12] (l' := [(12, .bool false)]) rfl
         refine wp_ret ?_
         try dsimp only at h
         obtain rfl := Option.some.inj h
         exact RET _ _ (ret1 F rfl rfl ⟨_, rfl, rfl, H.px1.px0.fx2.fx1.fx0⟩)
        ·rw [if_neg c78] at h
         rw [decide_eq_false c78] at F
         refine mv F rfl fun a F => ?_
         refine qw F (r_gt (F.t 92 rfl) (F.ev (x := .const (.int .i64 300)) rfl)) fun a F => ?_
         refine qw F (r_pickF (F.t 91 rfl) (F.t 93 rfl)) fun a F => ?_
         refine rgend ?_
         replace F := F.only [94, 18, 4, 5, 13, 14, 15, 16] (l' := [(94, .bool (decide (x75 > 300))), (18, .int .i64 x75), (4, .int .u8 a4), (5, .bool a5), (13, .bool x1), (14, .pointer (some ⟨g13, 0, none⟩)), (15, .int .i64 x18), (16, .pointer (some ⟨g20, 0, none⟩))]) rfl
         by_cases c79 : x75 > 300
         ·rw [if_pos c79] at h
          rw [decide_eq_true c79] at F
          refine wp_cond_true (F.ev rfl) ?_
          refine rg ?_
          refine as_ F (v := .bool false) rfl fun a F => ?_
          refine rgend ?_
          replace F := F.only [12] (l' := [(12, .bool false)]) rfl
          refine wp_ret ?_
          try dsimp only at h
          obtain rfl := Option.some.inj h
          exact RET _ _ (ret1 F rfl rfl ⟨_, rfl, rfl, H.px1.px0.fx2.fx1.fx0⟩)
         ·rw [if_neg c79] at h
          rw [decide_eq_false c79] at F
          refine wp_cond_false (F.ev rfl) ?_
          refine wp_skip ?_
          refine rg ?_
          refine mv F rfl fun a F => ?_
          refine qw F (r_ci (F.t 95 rfl) Try.underlying3 Try.underlying5) fun a F => ?_
          refine mv F rfl fun a F => ?_
          obtain ⟨c80, h⟩ := guardO h
          refine qw F (r_rem (F.t 96 rfl) (F.t 97 rfl) c80) fun a F => ?_
          refine as_ F rfl fun a F => ?_
          refine rgend ?_
          replace F := F.only [19, 18, 5, 13, 14, 15, 16] (l' := [(19, .int .i64 ((IntKind.i64.wrap a4).tmod x75)), (18, .int .i64 x75), (5, .bool a5), (13, .bool x1), (14, .pointer (some ⟨g13, 0, none⟩)), (15, .int .i64 x18), (16, .pointer (some ⟨g20, 0, none⟩))]) rfl
          refine rg ?_
          refine mv F rfl fun a F => ?_
          obtain ⟨c82, h⟩ := guardO h
          obtain ⟨g81, _, hr, H⟩ := Hp.make (kd := kBool) (zx := false) H (F.t 99 rfl) (F.t 99 rfl) Try.underlying54 ti4 rfl rfl (by decide) c82.1 c82.2 (fun Z w => rfl) rfl
          refine qw F (hr _ _ _ _ _) fun a F => ?_
          refine as_ F rfl fun a F => ?_
          refine rgend ?_
          refine wp_seq ?_
          refine rg ?_
          refine as_ F (v := .int .i64 0) rfl fun a F => ?_
          refine rgend ?_
          obtain ⟨o_89, k_89, h⟩ := Option.bind_eq_some_iff.1 h
          refine cut (fun a w => ∃ (x87 : List Bool), x87 = o_89 ∧ ∃ (A88 : Option Addr) (c89 : Nat), Fr 154 [] [(5, .bool a5), (13, .bool x1), (14, .pointer (some ⟨g13, 0, none⟩)), (15, .int .i64 x18), (16, .pointer (some ⟨g20, 0, none⟩)), (19, .int .i64 ((IntKind.i64.wrap a4).tmod x75)), (20, .slice A88 x87.length c89)] a ∧ Hp w0 (rd kByte A1_ c1_ a1 :: rd (kSlice kByte) A2_ c2_ a2 :: ps) (own kBool 4 A88 c89 x87 :: own (kSlice kByte) 23 A28 c29 x27 :: obj_disk_Disk g13 x26 :: cel g20 [.int .i64 a0, .slice A1_ a1.length c1_, .slice A2_ a2.length c2_, .slice A28 x27.length c29] 34 :: fs) w) (wp_block ?_) ?_
          ·refine wloop (law17_RegionLacks_b1 a4 x75) (fun (s : (List Bool) × Int) a w => ∃ (A84 : Option Addr) (c85 : Nat), Fr 154 [] [(5, .bool a5), (13, .bool x1), (14, .pointer (some ⟨g13, 0, none⟩)), (15, .int .i64 x18), (16, .pointer (some ⟨g20, 0, none⟩)), (18, .int .i64 x75), (19, .int .i64 ((IntKind.i64.wrap a4).tmod x75)), (20, .slice A84 s.1.length c85), (21, .int .i64 s.2)] a ∧ Hp w0 (rd kByte A1_ c1_ a1 :: rd (kSlice kByte) A2_ c2_ a2 :: ps) (own kBool 4 A84 c85 s.1 :: own (kSlice kByte) 23 A28 c29 x27 :: obj_disk_Disk g13 x26 :: cel g20 [.int .i64 a0, .slice A1_ a1.length c1_, .slice A2_ a2.length c2_, .slice A28 x27.length c29] 34 :: fs) w) k_89 ⟨(some ⟨g81, 0, none⟩), (List.replicate (x75 : Int).toNat false).length, F.only [5, 13, 14, 15, 16, 18, 19, 20, 21] rfl, H.f3.f2.f3.f3⟩ ?_
           rintro ⟨x83, x86⟩ a w q_89 j_89 u_89 ⟨A84, c85, F, H⟩
           unfold law17_RegionLacks_b1 at j_89
           try dsimp only at j_89 F H
           refine wp_seq ?_
           refine rg ?_
           refine mv F rfl fun a F => ?_
           refine mv F rfl fun a F => ?_
           refine qw F (r_lt (F.t 101 rfl) (F.t 102 rfl)) fun a F => ?_
           refine rgend ?_
           by_cases c91 : x86 < x75
           ·rw [if_pos c91] at j_89
            rw [decide_eq_true c91] at F
            refine wp_cond_true (F.ev rfl) ?_
            refine wp_skip ?_
            refine wp_seq ?_
            refine wp_block ?_
            refine wp_region_lit ?_
            refine mv F rfl fun a F => ?_
            refine mv F rfl fun a F => ?_
            refine mv F rfl fun a F => ?_
            refine mv F rfl fun a F => ?_
            refine qw F (r_ne (F.t 108 rfl) (F.t 109 rfl)) fun a F => ?_
            obtain ⟨c92, j_89⟩ := guardO j_89
            obtain ⟨g93, s94, hA, hq96, hl95, H⟩ := H.ixOwn2 false 0 rfl (F.t 106 rfl) (F.t 107 rfl) Try.underlying54 sz4 (by decide) c92.1 c92.2
            cases hA
            obtain rfl := H.says_bool 0 rfl
            refine qw F (hq96 _ _ _ _ _ _) fun a F => ?_
            obtain ⟨_, hr, H⟩ := Hp.setOwn (kd := kBool) (xs := x83) (j := (x86 : Int).toNat) (x1 := decide (x86 ≠ ((IntKind.i64.wrap a4).tmod x75))) (H) (F.t 111 rfl) (F.t 110 rfl) rfl sz4 (by have := c92; omega) (fun Z hp => rfl)
            refine ls (qn F (.inl rfl) (hr _ _ _ _) fun a F => ?_)
            replace F := F.only [111, 110, 109, 108, 107, 106, 103, 102, 101, 5, 13, 14, 15, 16, 18, 19, 20, 21] (l' := [(111, .pointer (some ⟨g93, (x86 : Int).toNat * kBool.sz, none⟩)), (110, .bool (decide (x86 ≠ ((IntKind.i64.wrap a4).tmod x75)))), (109, .int .i64 ((IntKind.i64.wrap a4).tmod x75)), (108, .int .i64 x86), (107, .int .i64 x86), (106, .slice (some ⟨g93, 0, none⟩) ((x83.set (x86 : Int).toNat (decide (x86 ≠ ((IntKind.i64.wrap a4).tmod x75))))).length c85), (103, .bool true), (102, .int .i64 x75), (101, .int .i64 x86), (5, .bool a5), (13, .bool x1), (14, .pointer (some ⟨g13, 0, none⟩)), (15, .int .i64 x18), (16, .pointer (some ⟨g20, 0, none⟩)), (18, .int .i64 x75), (19, .int .i64 ((IntKind.i64.wrap a4).tmod x75)), (20, .slice (some ⟨g93, 0, none⟩) ((x83.set (x86 : Int).toNat (decide (x86 ≠ ((IntKind.i64.wrap a4).tmod x75))))).length c85), (21, .int .i64 x86)]) (by (try simp only [List.length_set]); rfl)
            refine wpList_nil ?_
            replace F := F.only [5, 13, 14, 15, 16, 18, 19, 20, 21] (l' := [(5, .bool a5), (13, .bool x1), (14, .pointer (some ⟨g13, 0, none⟩)), (15, .int .i64 x18), (16, .pointer (some ⟨g20, 0, none⟩)), (18, .int .i64 x75), (19, .int .i64 ((IntKind.i64.wrap a4).tmod x75)), (20, .slice (some ⟨g93, 0, none⟩) ((x83.set (x86 : Int).toNat (decide (x86 ≠ ((IntKind.i64.wrap a4).tmod x75))))).length c85), (21, .int .i64 x86)]) rfl
            refine wp_region_lit ?_
            refine mv F rfl fun a F => ?_
            refine qw F (r_add (F.t 104 rfl) (F.ev (x := .const (.int .i64 1)) rfl)) fun a F => ?_
            refine as_ F rfl fun a F => ?_
            refine wpList_nil ?_
            try dsimp only at j_89
            obtain rfl := Option.some.inj j_89
            exact ⟨_, rfl, (some ⟨g93, 0, none⟩), c85, F.only [5, 13, 14, 15, 16, 18, 19, 20, 21] rfl, H.px0⟩
           ·rw [if_neg c91] at j_89
            rw [decide_eq_false c91] at F
            refine wp_cond_false (F.ev rfl) ?_
            refine wp_exit ?_
            try dsimp only at j_89
            obtain rfl := Option.some.inj j_89
            obtain rfl := u_89 _ rfl
            repeat (with_reducible refine exT ?_)
            with_reducible refine exB ?_
            exact ⟨_, rfl, A84, c85, F.only [5, 13, 14, 15, 16, 19, 20] rfl, H⟩
          ·rintro a w ⟨x87, rfl, A88, c89, F, H⟩
           try dsimp only at h F H
           refine wp_seq ?_
           refine rg ?_
           refine mv F rfl fun a F => ?_
           refine rgend ?_
           obtain ⟨o_97, k_97, h⟩ := Option.bind_eq_some_iff.1 h
           refine cut (fun a w => ∃ (x97 : disk_Disk), x97 = o_97 ∧ Fr 154 [] [(13, .bool x1), (14, .pointer (some ⟨g13, 0, none⟩)), (15, .int .i64 x18), (16, .pointer (some ⟨g20, 0, none⟩)), (19, .int .i64 ((IntKind.i64.wrap a4).tmod x75))] a ∧ Hp w0 (rd kByte A1_ c1_ a1 :: rd (kSlice kByte) A2_ c2_ a2 :: ps) (own (kSlice kByte) 23 A28 c29 x27 :: obj_disk_Disk g13 x97 :: cel g20 [.int .i64 a0, .slice A1_ a1.length c1_, .slice A2_ a2.length c2_, .slice A28 x27.length c29] 34 :: fs) w) ?_ ?_
           ·skip
            by_cases c99 : a5 = true
            ·rw [if_pos c99] at k_97
             rw [c99] at F
             refine wp_cond_true (F.ev rfl) ?_
             refine wp_region_lit ?_
             refine mv F rfl fun a F => ?_
             refine mv F rfl fun a F => ?_
             refine mv F rfl fun a F => ?_
             replace H := (H).freeze
             obtain ⟨x100, e101, k_97⟩ := Option.bind_eq_some_iff.1 k_97
             try dsimp only at k_97
             refine ls (call F Try.func25 (disk_Disk_Crash_ok (H.p0.f2.f1.f2) e101) rfl rfl fun v w hR a F => ?_)
             obtain ⟨rfl, H⟩ := hR
             refine wpList_nil ?_
             replace F := F.only [13, 14, 15, 16, 19] (l' := [(13, .bool x1), (14, .pointer (some ⟨g13, 0, none⟩)), (15, .int .i64 x18), (16, .pointer (some ⟨g20, 0, none⟩)), (19, .int .i64 ((IntKind.i64.wrap a4).tmod x75))]) rfl
             try dsimp only at k_97
             obtain rfl := Option.some.inj k_97
             exact ⟨_, rfl, F.only [13, 14, 15, 16, 19] rfl, H.px0.f2.f1.f2⟩
            ·rw [if_neg c99] at k_97
             rw [Bool.eq_false_iff.2 c99] at F
             refine wp_cond_false (F.ev rfl) ?_
             refine wp_region_lit ?_
             refine mv F rfl fun a F => ?_
             refine mv F rfl fun a F => ?_
             replace H := (H).freeze
             obtain ⟨x102, e103, k_97⟩ := Option.bind_eq_some_iff.1 k_97
             try dsimp only at k_97
             refine ls (call F Try.func25 (disk_Disk_Crash_ok (H.p0.f2.f1.f2) e103) rfl rfl fun v w hR a F => ?_)
             obtain ⟨rfl, H⟩ := hR
             refine wpList_nil ?_
             replace F := F.only [13, 14, 15, 16, 19] (l' := [(13, .bool x1), (14, .pointer (some ⟨g13, 0, none⟩)), (15, .int .i64 x18), (16, .pointer (some ⟨g20, 0, none⟩)), (19, .int .i64 ((IntKind.i64.wrap a4).tmod x75))]) rfl
             try dsimp only at k_97
             obtain rfl := Option.some.inj k_97
             exact ⟨_, rfl, F.only [13, 14, 15, 16, 19] rfl, H.px0.f2.f1.f2⟩
           ·rintro a w ⟨x97, rfl, F, H⟩
            try dsimp only at h F H
            refine rg ?_
            refine mv F rfl fun a F => ?_
            obtain ⟨⟨x104, x105⟩, e106, h⟩ := Option.bind_eq_some_iff.1 h
            try dsimp only at h
            refine ls (call F Try.func12 (region_Read_ok (H.f2.f1.f2) e106) rfl rfl fun v w hR a F => ?_)
            obtain ⟨A107, c108, A109, c110, A111, c112, rfl, H⟩ := hR
            refine mv F rfl fun a F => ?_
            refine qw F (r_ex (F.t 120 rfl) rfl) fun a F => ?_
            refine qw F (r_ex (F.t 120 rfl) rfl) fun a F => ?_
            refine ls (lal F H ti34 (cs := [.int .i64 0, .slice none 0 0, .slice none 0 0, .slice none 0 0]) rfl fun g113 w a H F => ?_)
            obtain ⟨_, hr, H⟩ := Hp.store (t := 34) (o := 0) (n := 4) (vs := [.int .i64 x104.Gen, .slice A107 x104.State.length c108, .slice A109 x104.Kept.length c110, .slice A111 x104.More.length c112]) (cs' := [.int .i64 x104.Gen, .slice A107 x104.State.length c108, .slice A109 x104.Kept.length c110, .slice A111 x104.More.length c112]) (H) (F.t 22 rfl) (F.t 123 rfl) rfl sz34 rfl (Nat.le_of_ble_eq_true rfl) rfl rfl
            refine ls (qn F (.inl rfl) (hr _ _ _ _) fun a F => ?_)
            refine as_ F rfl fun a F => ?_
            refine rgend ?_
            replace F := F.only [23, 22, 13, 15, 16, 19] (l' := [(23, .bool x105), (22, .pointer (some ⟨g113, 0, none⟩)), (13, .bool x1), (15, .int .i64 x18), (16, .pointer (some ⟨g20, 0, none⟩)), (19, .int .i64 ((IntKind.i64.wrap a4).tmod x75))]) rfl
            refine wp_seq ?_
            refine rg ?_
            refine mv F rfl fun a F => ?_
            refine mv F rfl fun a F => ?_
            refine qw F (r_lt (F.t 125 rfl) (F.t 126 rfl)) fun a F => ?_
            refine rgend ?_
            by_cases c114 : ((IntKind.i64.wrap a4).tmod x75) < x18
            ·rw [if_pos c114] at h
             rw [decide_eq_true c114] at F
             refine wp_cond_true (F.ev rfl) ?_
             refine wp_seq ?_
             obtain ⟨o_115, k_115, h⟩ := Option.bind_eq_some_iff.1 h
             refine cut (fun a w => ∃ (x115 : Bool), x115 = o_115 ∧ Fr 154 [] [(12, .bool x115)] a ∧ Hp w0 ps (obj_disk_Disk g13 x97 :: fs) w) ?_ ?_
             ·skip
              refine wp_region_lit ?_
              refine mv F rfl fun a F => ?_
              refine mv F rfl fun a F => ?_
              by_cases c117 : x1 = true
              ·rw [if_pos c117] at k_115
               rw [c117] at F
               refine mv F rfl fun a F => ?_
               refine qw F (r_not (F.t 130 rfl)) fun a F => ?_
               refine qw F (r_pickT (F.t 129 rfl) (F.t 131 rfl)) fun a F => ?_
               refine mv F rfl fun a F => ?_
               by_cases c118 : x105 = true
               ·rw [if_pos c118] at k_115
                rw [c118] at F
                refine of_ F fun a F => ?_
                refine of_ F fun a F => ?_
                refine of_ F fun a F => ?_
                refine qw F (r_pickF (F.t 133 rfl) (F.ev (x := .const (.bool false)) rfl)) fun a F => ?_
                refine as_ F rfl fun a F => ?_
                refine wpList_nil ?_
                replace F := F.only [12] (l' := [(12, .bool false)]) rfl
                try dsimp only at k_115
                obtain rfl := Option.some.inj k_115
                exact ⟨_, rfl, F.only [12] rfl, H.px3.px2.px1.px0.fx4.fx3.fx1.fx0⟩
               ·rw [if_neg c118] at k_115
                rw [Bool.eq_false_iff.2 c118] at F
                refine qw F (r_ldA (F.t 22 rfl) (cel_range (o := 0) (n := 4) (vs := [.int .i64 x104.Gen, .slice A107 x104.State.length c108, .slice A109 x104.Kept.length c110, .slice A111 x104.More.length c112]) (H.cell 0 rfl) rfl) agg34 rfl) fun a F => ?_
                refine ls (lbd F (vs := []) (cs := [.int .i64 0, .slice none 0 0, .slice none 0 0, .slice none 0 0]) rfl (fun w => by kernel_rfl) fun a F => ?_)
                replace H := (H.f4.f4.f4.f3.f4).freeze
                replace H := H.nilRd kByte
                replace H := H.nilRd (kSlice kByte)
                obtain ⟨x119, e120, k_115⟩ := Option.bind_eq_some_iff.1 k_115
                try dsimp only at k_115
                refine ls (call F Try.func14 (ref17_Same_ok (a0 := x104) (a1 := (⟨0, [], [], []⟩ : api_Region)) (H.p0.p1.p3.p5.p8.p8) e120) rfl rfl fun v w hR a F => ?_)
                obtain ⟨rfl, H⟩ := hR
                refine qw F (r_pickT (F.t 133 rfl) (F.t 136 rfl)) fun a F => ?_
                refine as_ F rfl fun a F => ?_
                refine wpList_nil ?_
                replace F := F.only [12] (l' := [(12, .bool x119)]) rfl
                try dsimp only at k_115
                obtain rfl := Option.some.inj k_115
                exact ⟨_, rfl, F.only [12] rfl, H.px6.px5.px4.px3.px2.px1.px0.fx3.fx2.fx0⟩
              ·rw [if_neg c117] at k_115
               rw [Bool.eq_false_iff.2 c117] at F
               refine of_ F fun a F => ?_
               refine of_ F fun a F => ?_
               refine qw F (r_pickF (F.t 129 rfl) (F.ev (x := .const (.bool false)) rfl)) fun a F => ?_
               refine mv F rfl fun a F => ?_
               refine of_ F fun a F => ?_
               refine of_ F fun a F => ?_
               refine of_ F fun a F => ?_
               refine qw F (r_pickF (F.t 133 rfl) (F.ev (x := .const (.bool false)) rfl)) fun a F => ?_
               refine as_ F rfl fun a F => ?_
               refine wpList_nil ?_
               replace F := F.only [12] (l' := [(12, .bool false)]) rfl
               try dsimp only at k_115
               obtain rfl := Option.some.inj k_115
               exact ⟨_, rfl, F.only [12] rfl, H.px3.px2.px1.px0.fx4.fx3.fx1.fx0⟩
             ·rintro a w ⟨x115, rfl, F, H⟩
              try dsimp only at h F H
              refine wp_ret ?_
              try dsimp only at h
              obtain rfl := Option.some.inj h
              exact RET _ _ (ret1 F rfl rfl ⟨_, rfl, rfl, H.fx0⟩)
            ·rw [if_neg c114] at h
             rw [decide_eq_false c114] at F
             refine wp_cond_false (F.ev rfl) ?_
             refine wp_skip ?_
             refine rg ?_
             refine qw F (r_fa (off := 3) (F.t 16 rfl) fa34_3) fun a F => ?_
             refine qw F (r_ld (F.t 138 rfl) (cel_cell (o := 3) (H.cell 4 rfl) rfl) one32) fun a F => ?_
             refine mv F rfl fun a F => ?_
             refine mv F rfl fun a F => ?_
             refine qw F (r_sub (F.t 140 rfl) (F.t 141 rfl)) fun a F => ?_
             replace H := (H.f4.f3.f3.f3.f4).freeze
             obtain ⟨c121, h⟩ := guardO h
             obtain ⟨A122, c123, hr, H⟩ := Hp.sl (kd := (kSlice kByte)) (jl := (0 : Int)) (jh := IntKind.i64.wrap (((IntKind.i64.wrap a4).tmod x75) - x18)) H 0 rfl (F.t 139 rfl) Try.underlying32 sz23 (.inl ⟨rfl, rfl⟩) (.inr ⟨_, _, rfl, (F.t 142 rfl)⟩) c121
             refine qw F (hr _ _ _ _ _ _) fun a F => ?_
             refine qw F (r_fa (off := 3) (F.t 16 rfl) fa34_3) fun a F => ?_
             obtain ⟨_, hr, H⟩ := Hp.store (t := 32) (o := 3) (n := 1) (vs := [.slice A122 (((x27.take (IntKind.i64.wrap (((IntKind.i64.wrap a4).tmod x75) - x18)).toNat).drop ((0 : Int)).toNat)).length c123]) (cs' := [.int .i64 a0, .slice A1_ a1.length c1_, .slice A2_ a2.length c2_, .slice A122 (((x27.take (IntKind.i64.wrap (((IntKind.i64.wrap a4).tmod x75) - x18)).toNat).drop ((0 : Int)).toNat)).length c123]) (H.f2.f2.f2.f3) (F.t 144 rfl) (F.t 143 rfl) rfl sz32 rfl (Nat.le_of_ble_eq_true rfl) rfl rfl
             refine ls (qn F (.inl rfl) (hr _ _ _ _) fun a F => ?_)
             refine rgend ?_
             replace F := F.only [23, 22, 13, 16] (l' := [(23, .bool x105), (22, .pointer (some ⟨g113, 0, none⟩)), (13, .bool x1), (16, .pointer (some ⟨g20, 0, none⟩))]) rfl
             refine wp_seq ?_
             obtain ⟨o_124, k_124, h⟩ := Option.bind_eq_some_iff.1 h
             refine cut (fun a w => ∃ (x124 : Bool), x124 = o_124 ∧ Fr 154 [] [(12, .bool x124)] a ∧ Hp w0 ps (obj_disk_Disk g13 x97 :: fs) w) ?_ ?_
             ·skip
              refine wp_region_lit ?_
              refine mv F rfl fun a F => ?_
              refine mv F rfl fun a F => ?_
              by_cases c126 : x1 = true
              ·rw [if_pos c126] at k_124
               rw [c126] at F
               refine mv F rfl fun a F => ?_
               refine qw F (r_pickT (F.t 146 rfl) (F.t 147 rfl)) fun a F => ?_
               refine mv F rfl fun a F => ?_
               by_cases c127 : x105 = true
               ·rw [if_pos c127] at k_124
                rw [c127] at F
                refine qw F (r_ldA (F.t 22 rfl) (cel_range (o := 0) (n := 4) (vs := [.int .i64 x104.Gen, .slice A107 x104.State.length c108, .slice A109 x104.Kept.length c110, .slice A111 x104.More.length c112]) (H.cell 1 rfl) rfl) agg34 rfl) fun a F => ?_
                refine qw F (r_ldA (F.t 16 rfl) (cel_range (o := 0) (n := 4) (vs := [.int .i64 a0, .slice A1_ a1.length c1_, .slice A2_ a2.length c2_, .slice A122 (((x27.take (IntKind.i64.wrap (((IntKind.i64.wrap a4).tmod x75) - x18)).toNat).drop ((0 : Int)).toNat)).length c123]) (H.cell 0 rfl) rfl) agg34 rfl) fun a F => ?_
                replace H := (H.f3.f2.f2.f3).freeze
                obtain ⟨x128, e129, k_124⟩ := Option.bind_eq_some_iff.1 k_124
                try dsimp only at k_124
                refine ls (call F Try.func14 (ref17_Same_ok (a0 := x104) (a1 := (⟨a0, a1, a2, ((x27.take (IntKind.i64.wrap (((IntKind.i64.wrap a4).tmod x75) - x18)).toNat).drop ((0 : Int)).toNat)⟩ : api_Region)) (H.p1.p7.p7.p3.p8.p8) e129) rfl rfl fun v w hR a F => ?_)
                obtain ⟨rfl, H⟩ := hR
                refine qw F (r_pickT (F.t 149 rfl) (F.t 152 rfl)) fun a F => ?_
                refine as_ F rfl fun a F => ?_
                refine wpList_nil ?_
                replace F := F.only [12] (l' := [(12, .bool x128)]) rfl
                try dsimp only at k_124
                obtain rfl := Option.some.inj k_124
                exact ⟨_, rfl, F.only [12] rfl, H.px6.px5.px4.px3.px2.px1.px0.fx1.fx0⟩
               ·rw [if_neg c127] at k_124
                rw [Bool.eq_false_iff.2 c127] at F
                refine of_ F fun a F => ?_
                refine of_ F fun a F => ?_
                refine of_ F fun a F => ?_
                refine qw F (r_pickF (F.t 149 rfl) (F.ev (x := .const (.bool false)) rfl)) fun a F => ?_
                refine as_ F rfl fun a F => ?_
                refine wpList_nil ?_
                replace F := F.only [12] (l' := [(12, .bool false)]) rfl
                try dsimp only at k_124
                obtain rfl := Option.some.inj k_124
                exact ⟨_, rfl, F.only [12] rfl, H.px5.px4.px3.px2.px1.px0.fx2.fx1.fx0⟩
              ·rw [if_neg c126] at k_124
               rw [Bool.eq_false_iff.2 c126] at F
               refine of_ F fun a F => ?_
               refine qw F (r_pickF (F.t 146 rfl) (F.ev (x := .const (.bool false)) rfl)) fun a F => ?_
               refine mv F rfl fun a F => ?_
               refine of_ F fun a F => ?_
               refine of_ F fun a F => ?_
               refine of_ F fun a F => ?_
               refine qw F (r_pickF (F.t 149 rfl) (F.ev (x := .const (.bool false)) rfl)) fun a F => ?_
               refine as_ F rfl fun a F => ?_
               refine wpList_nil ?_
               replace F := F.only [12] (l' := [(12, .bool false)]) rfl
               try dsimp only at k_124
               obtain rfl := Option.some.inj k_124
               exact ⟨_, rfl, F.only [12] rfl, H.px5.px4.px3.px2.px1.px0.fx2.fx1.fx0⟩
             ·rintro a w ⟨x124, rfl, F, H⟩
              try dsimp only at h F H
              refine wp_ret ?_
              try dsimp only at h
              obtain rfl := Option.some.inj h
              exact RET _ _ (ret1 F rfl rfl ⟨_, rfl, rfl, H.fx0⟩)
end Go.Proofs.Ytdkdaggpfgajlaa
