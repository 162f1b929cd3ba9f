/- What the functions compute. Printed by wip/gen. -/
import Derived.Test.YtpmkpiffbdcflaaGL
set_option linter.unusedVariables false
set_option linter.unusedSimpArgs false
namespace Go.Proofs.Ytpmkpiffbdcflaa
open Go Go.RowKit
def law18_StoreSynced_b5 (a3 : List (List Int)) : (Int × disk_Disk × store_Store) → Option (Int × disk_Disk × store_Store ⊕ disk_Disk × store_Store)
 | (x120, x121, x122) => (if x120 < (a3.length : Int) then (if 0 ≤ x120 ∧ x120 < (a3.length : Int) then ((store_Store_Append_f x122 ((a3.getD (x120 : Int).toNat [])) x121).bind fun (x133, x134, x135) => some (.inl (IntKind.i64.wrap (x120 + 1), x135, x134))) else none) else some (.inr (x121, x122)))
def law18_StoreSynced_b4 (a2 : List (List Int)) : ((List (List Int)) × Int × disk_Disk × store_Store) → Option ((List (List Int)) × Int × disk_Disk × store_Store ⊕ (List (List Int)) × disk_Disk × store_Store)
 | (x79, x82, x83, x84) => (if x82 < (a2.length : Int) then (if 0 ≤ x82 ∧ x82 < (a2.length : Int) then ((store_Store_Append_f x84 ((a2.getD (x82 : Int).toNat [])) x83).bind fun (x98, x99, x100) => (((if x98 = 0 then (if 0 ≤ x82 ∧ x82 < (a2.length : Int) then (if (x79.length + 1) * 24 ≤ 140737488355328 then some (((x79 ++ ([(a2.getD (x82 : Int).toNat [])])))) else none) else none) else some x79) : Option (List (List Int))).bind fun x102 => some (.inl (x102, IntKind.i64.wrap (x82 + 1), x100, x99)))) else none) else some (.inr (x79, x83, x84)))
def law18_StoreSynced_b3 (a2 : List (List Int)) : (Int × Int) → Option (Int × Int ⊕ Int)
 | (x49, x50) => (((if x50 < (a2.length : Int) then some ((decide (x49 < 9000))) else some false) : Option (Bool)).bind fun x53 => (if x53 = true then (if 0 ≤ x50 ∧ x50 < (a2.length : Int) then some (.inl (IntKind.i64.wrap (x49 + (min (((a2.getD (x50 : Int).toNat [])).length : Int) 9000)), IntKind.i64.wrap (x50 + 1))) else none) else some (.inr x49)))
def law18_StoreSynced_b2 (a1 : List (List Int)) : (Int × Int) → Option (Int × Int ⊕ Int)
 | (x35, x36) => (((if x36 < (a1.length : Int) then some ((decide (x35 < 9000))) else some false) : Option (Bool)).bind fun x39 => (if x39 = true then (if 0 ≤ x36 ∧ x36 < (a1.length : Int) then some (.inl (IntKind.i64.wrap (x35 + (min (((a1.getD (x36 : Int).toNat [])).length : Int) 9000)), IntKind.i64.wrap (x36 + 1))) else none) else some (.inr x35)))
def law18_StoreSynced_b1 (a2 : List (List Int)) : (Int × Int) → Option (Int × Int ⊕ Int)
 | (x20, x21) => (((if x21 < (a2.length : Int) then some ((decide (x20 < 9000))) else some false) : Option (Bool)).bind fun x24 => (if x24 = true then (if 0 ≤ x21 ∧ x21 < (a2.length : Int) then some (.inl (IntKind.i64.wrap (x20 + (min (((a2.getD (x21 : Int).toNat [])).length : Int) 9000)), IntKind.i64.wrap (x21 + 1))) else none) else some (.inr x20)))
def law18_StoreSynced_b0 (a1 : List (List Int)) : (Int × Int) → Option (Int × Int ⊕ Int)
 | (x6, x7) => (((if x7 < (a1.length : Int) then some ((decide (x6 < 9000))) else some false) : Option (Bool)).bind fun x10 => (if x10 = true then (if 0 ≤ x7 ∧ x7 < (a1.length : Int) then some (.inl (IntKind.i64.wrap (x6 + (min (((a1.getD (x7 : Int).toNat [])).length : Int) 9000)), IntKind.i64.wrap (x7 + 1))) else none) else some (.inr x6)))
def law18_StoreSynced_f (a0 : List Int) (a1 : List (List Int)) (a2 : List (List Int)) (a3 : List (List Int)) (a4 : List Bool) (a5 : Int) : Option (Bool) :=
 ((law18_head_f).bind fun x1 => ((disk_New_f 400).bind fun x3 => match x3 with | none => ((lp (law18_StoreSynced_b0 a1) (IntKind.i64.wrap ((IntKind.i64.wrap ((a1.length : Int) + (a2.length : Int))) + (a3.length : Int)), 0)).bind fun x8 => ((lp (law18_StoreSynced_b1 a2) (x8, 0)).bind fun x22 => some false)) | some x5 => ((lp (law18_StoreSynced_b2 a1) (IntKind.i64.wrap ((IntKind.i64.wrap ((a1.length : Int) + (a2.length : Int))) + (a3.length : Int)), 0)).bind fun x37 => ((lp (law18_StoreSynced_b3 a2) (x37, 0)).bind fun x51 => (if x51 ≥ 9000 then some x1 else (if (a3.length : Int) > 60 then some x1 else (if (a0.length : Int) > 3000 then some x1 else (if (a4.length : Int) > 900 then some x1 else ((store_Open_f x5).bind fun x67 => ((store_Store_Begin_f x67 a0 a1 x5).bind fun (x70, x71, x72) => (if x70 ≠ 0 then some x1 else (if (0 + a1.length) * 24 ≤ 140737488355328 then ((lp (law18_StoreSynced_b4 a2) (a1, 0, x72, x71)).bind fun (x85, x88, x89) => ((store_Store_Sync_f x89 x88).bind fun (x117, x118) => ((lp (law18_StoreSynced_b5 a3) (0, x118, x89)).bind fun (x123, x124) => ((disk_Disk_Crash_f x123 a4 a5).bind fun x137 => ((store_Open_f x137).bind fun x139 => ((store_Store_Entries_f x139).bind fun x142 => (((if x1 = true then (if x117 = 0 then ((store_Store_Has_f x139).bind fun x150 => (if x150 = true then ((store_Store_State_f x139).bind fun x154 => (if x154 = a0 then (if (x142.length : Int) ≥ (x85.length : Int) then (if 0 ≤ (0 : Int) ∧ (0 : Int) ≤ min (x85.length : Int) (x142.length : Int) ∧ min (x85.length : Int) (x142.length : Int) ≤ (x142.length : Int) then ((ref17_SameRows_f (((x142.take (min (x85.length : Int) (x142.length : Int)).toNat).drop ((0 : Int)).toNat)) x85).bind fun x164 => (if x164 = true then some ((decide ((x142.length : Int) ≤ (IntKind.i64.wrap ((x85.length : Int) + (a3.length : Int)))))) else some false)) else none) else some false) else some false)) else some false)) else some false) else some false) : Option (Bool)).bind fun x146 => some x146))))))) else none))))))))))))
set_option maxHeartbeats 4000000 in
set_option maxRecDepth 20000 in
theorem law18_StoreSynced_ok {w0 w : World} {ps : List PF} {fs : List SF} {a0 : List Int} {A0_ : Option Addr} {c0_ : Nat} {a1 : List (List Int)} {A1_ : Option Addr} {c1_ : Nat} {a2 : List (List Int)} {A2_ : Option Addr} {c2_ : Nat} {a3 : List (List Int)} {A3_ : Option Addr} {c3_ : Nat} {a4 : List Bool} {A4_ : Option Addr} {c4_ : Nat} {a5 : Int} {r0 : Bool} (H : Hp w0 (rd kByte A0_ c0_ a0 :: rd (kSlice kByte) A1_ c1_ a1 :: rd (kSlice kByte) A2_ c2_ a2 :: rd (kSlice kByte) A3_ c3_ a3 :: rd kBool A4_ c4_ a4 :: ps) fs w) (h : law18_StoreSynced_f a0 a1 a2 a3 a4 a5 = some r0) :
  Calls Try.prog 7 [.slice A0_ a0.length c0_, .slice A1_ a1.length c1_, .slice A2_ a2.length c2_, .slice A3_ a3.length c3_, .slice A4_ a4.length c4_, .int .i64 a5].toArray w fun e w' => ∃ v, e = .returned v ∧ v = .bool r0 ∧ Hp w0 ps fs w' := by
 refine enter [.slice A0_ a0.length c0_, .slice A1_ a1.length c1_, .slice A2_ a2.length c2_, .slice A3_ a3.length c3_, .slice A4_ a4.length c4_, .int .i64 a5] 199 Try.func7 fun Q a NP RET NRM F => ?_
 replace NP : ∀ c a w, ¬ Q (.panic c) a w := fun c a w h => by rcases NP c a w h with h | ⟨w, v, h, _⟩ <;> cases h
 unfold law18_StoreSynced_f at h
 refine rg ?_
 refine as_ F (v := .bool false) rfl fun a F => ?_
 refine rgend ?_
 refine rg ?_
 obtain ⟨x1, e2, h⟩ := Option.bind_eq_some_iff.1 h
 try dsimp only at h
 refine ls (call F Try.func10 (law18_head_ok (H) e2) rfl rfl fun v w hR a F => ?_)
 obtain ⟨rfl, H⟩ := hR
 refine as_ F rfl fun a F => ?_
 refine rgend ?_
 refine rg ?_
 obtain ⟨x3, e4, h⟩ := Option.bind_eq_some_iff.1 h
 try dsimp only at h
 rcases x3 with _ | x5
 ·try dsimp only at h
  refine ls (call F Try.func11 (disk_New_ok (H) e4) rfl rfl fun v w hR a F => ?_)
  obtain ⟨rfl, H⟩ := hR
  refine as_ F rfl fun a F => ?_
  refine rgend ?_
  refine rg ?_
  refine mv F rfl fun a F => ?_
  refine qw F (r_len (F.t 27 rfl) Try.underlying30) fun a F => ?_
  refine mv F rfl fun a F => ?_
  refine qw F (r_len (F.t 29 rfl) Try.underlying30) fun a F => ?_
  refine qw F (r_add (F.t 28 rfl) (F.t 30 rfl)) fun a F => ?_
  refine mv F rfl fun a F => ?_
  refine qw F (r_len (F.t 32 rfl) Try.underlying30) fun a F => ?_
  refine qw F (r_add (F.t 31 rfl) (F.t 33 rfl)) fun a F => ?_
  refine as_ F rfl fun a F => ?_
  refine rgend ?_
  replace F := F.only [15, 14, 13, 0, 1, 2, 3, 4, 5] (l' := [(15, .int .i64 (IntKind.i64.wrap ((IntKind.i64.wrap ((a1.length : Int) + (a2.length : Int))) + (a3.length : Int)))), (14, .pointer none), (13, .bool x1), (0, .slice A0_ a0.length c0_), (1, .slice A1_ a1.length c1_), (2, .slice A2_ a2.length c2_), (3, .slice A3_ a3.length c3_), (4, .slice A4_ a4.length c4_), (5, .int .i64 a5)]) rfl
  refine wp_seq ?_
  refine rg ?_
  refine as_ F (v := .int .i64 0) rfl fun a F => ?_
  refine rgend ?_
  obtain ⟨o_8, k_8, h⟩ := Option.bind_eq_some_iff.1 h
  refine cut (fun a w => ∃ (x8 : Int), x8 = o_8 ∧ Fr 199 [] [(0, .slice A0_ a0.length c0_), (1, .slice A1_ a1.length c1_), (2, .slice A2_ a2.length c2_), (3, .slice A3_ a3.length c3_), (4, .slice A4_ a4.length c4_), (5, .int .i64 a5), (13, .bool x1), (14, .pointer none), (15, .int .i64 x8)] a ∧ Hp w0 (rd kByte A0_ c0_ a0 :: rd (kSlice kByte) A1_ c1_ a1 :: rd (kSlice kByte) A2_ c2_ a2 :: rd (kSlice kByte) A3_ c3_ a3 :: rd kBool A4_ c4_ a4 :: ps) fs w) (wp_block ?_) ?_
  ·refine wloop (law18_StoreSynced_b0 a1) (fun (s : Int × Int) a w => Fr 199 [] [(0, .slice A0_ a0.length c0_), (1, .slice A1_ a1.length c1_), (2, .slice A2_ a2.length c2_), (3, .slice A3_ a3.length c3_), (4, .slice A4_ a4.length c4_), (5, .int .i64 a5), (13, .bool x1), (14, .pointer none), (15, .int .i64 s.1), (16, .int .i64 s.2)] a ∧ Hp w0 (rd kByte A0_ c0_ a0 :: rd (kSlice kByte) A1_ c1_ a1 :: rd (kSlice kByte) A2_ c2_ a2 :: rd (kSlice kByte) A3_ c3_ a3 :: rd kBool A4_ c4_ a4 :: ps) fs w) k_8 ⟨F.only [0, 1, 2, 3, 4, 5, 13, 14, 15, 16] rfl, H⟩ ?_
   rintro ⟨x6, x7⟩ a w q_8 j_8 u_8 ⟨F, H⟩
   unfold law18_StoreSynced_b0 at j_8
   try dsimp only at j_8 F H
   refine wp_seq ?_
   refine wp_seq ?_
   obtain ⟨o_10, k_10, j_8⟩ := Option.bind_eq_some_iff.1 j_8
   refine cut (fun a w => ∃ (x10 : Bool), x10 = o_10 ∧ Fr 199 [] [(0, .slice A0_ a0.length c0_), (1, .slice A1_ a1.length c1_), (2, .slice A2_ a2.length c2_), (3, .slice A3_ a3.length c3_), (4, .slice A4_ a4.length c4_), (5, .int .i64 a5), (13, .bool x1), (14, .pointer none), (15, .int .i64 x6), (16, .int .i64 x7), (42, .bool x10)] a ∧ Hp w0 (rd kByte A0_ c0_ a0 :: rd (kSlice kByte) A1_ c1_ a1 :: rd (kSlice kByte) A2_ c2_ a2 :: rd (kSlice kByte) A3_ c3_ a3 :: rd kBool A4_ c4_ a4 :: ps) fs w) ?_ ?_
   ·skip
    refine wp_region_lit ?_
    refine mv F rfl fun a F => ?_
    refine mv F rfl fun a F => ?_
    refine qw F (r_len (F.t 36 rfl) Try.underlying30) fun a F => ?_
    refine qw F (r_lt (F.t 35 rfl) (F.t 37 rfl)) fun a F => ?_
    refine mv F rfl fun a F => ?_
    by_cases c12 : x7 < (a1.length : Int)
    ·rw [if_pos c12] at k_10
     rw [decide_eq_true c12] at F
     refine mv F rfl fun a F => ?_
     refine qw F (r_lt (F.t 40 rfl) (F.ev (x := .const (.int .i64 9000)) rfl)) fun a F => ?_
     refine qw F (r_pickT (F.t 39 rfl) (F.t 41 rfl)) fun a F => ?_
     refine wpList_nil ?_
     replace F := F.only [42, 0, 1, 2, 3, 4, 5, 13, 14, 15, 16] (l' := [(42, .bool (decide (x6 < 9000))), (0, .slice A0_ a0.length c0_), (1, .slice A1_ a1.length c1_), (2, .slice A2_ a2.length c2_), (3, .slice A3_ a3.length c3_), (4, .slice A4_ a4.length c4_), (5, .int .i64 a5), (13, .bool x1), (14, .pointer none), (15, .int .i64 x6), (16, .int .i64 x7)]) rfl
     try dsimp only at k_10
     obtain rfl := Option.some.inj k_10
     exact ⟨_, rfl, F.only [0, 1, 2, 3, 4, 5, 13, 14, 15, 16, 42] rfl, H⟩
    ·rw [if_neg c12] at k_10
     rw [decide_eq_false c12] at F
     refine of_ F fun a F => ?_
     refine of_ F fun a F => ?_
     refine qw F (r_pickF (F.t 39 rfl) (F.ev (x := .const (.bool false)) rfl)) fun a F => ?_
     refine wpList_nil ?_
     replace F := F.only [42, 0, 1, 2, 3, 4, 5, 13, 14, 15, 16] (l' := [(42, .bool false), (0, .slice A0_ a0.length c0_), (1, .slice A1_ a1.length c1_), (2, .slice A2_ a2.length c2_), (3, .slice A3_ a3.length c3_), (4, .slice A4_ a4.length c4_), (5, .int .i64 a5), (13, .bool x1), (14, .pointer none), (15, .int .i64 x6), (16, .int .i64 x7)]) rfl
     try dsimp only at k_10
     obtain rfl := Option.some.inj k_10
     exact ⟨_, rfl, F.only [0, 1, 2, 3, 4, 5, 13, 14, 15, 16, 42] rfl, H⟩
   ·rintro a w ⟨x10, rfl, F, H⟩
    try dsimp only at j_8 F H
    by_cases c13 : x10 = true
    ·rw [if_pos c13] at j_8
     rw [c13] at F
     refine wp_cond_true (F.ev rfl) ?_
     refine wp_skip ?_
     refine wp_seq ?_
     refine wp_block ?_
     refine wp_region_lit ?_
     refine mv F rfl fun a F => ?_
     refine mv F rfl fun a F => ?_
     refine mv F rfl fun a F => ?_
     obtain ⟨c14, j_8⟩ := guardO j_8
     obtain ⟨g15, o16, s17, hr, H⟩ := H.ix [] 1 rfl (F.t 46 rfl) (F.t 47 rfl) Try.underlying30 sz29 (by decide) c14.1 c14.2
     obtain ⟨A18, c19, rfl, H⟩ := H.says_slice 1 rfl
     refine qw F (hr _ _ _ _ _ _) fun a F => ?_
     refine qw F (r_ld (F.t 48 rfl) (range_cell (j := 0) (H.range 1 rfl) rfl) one29) fun a F => ?_
     refine qw F (r_len (F.t 49 rfl) Try.underlying29) fun a F => ?_
     refine qw F (r_min (F.t 50 rfl) (F.ev (x := .const (.int .i64 9000)) rfl)) fun a F => ?_
     refine qw F (r_add (F.t 45 rfl) (F.t 51 rfl)) fun a F => ?_
     refine as_ F rfl fun a F => ?_
     refine wpList_nil ?_
     replace F := F.only [15, 0, 1, 2, 3, 4, 5, 13, 14, 16] (l' := [(15, .int .i64 (IntKind.i64.wrap (x6 + (min (((a1.getD (x7 : Int).toNat [])).length : Int) 9000)))), (0, .slice A0_ a0.length c0_), (1, .slice A1_ a1.length c1_), (2, .slice A2_ a2.length c2_), (3, .slice A3_ a3.length c3_), (4, .slice A4_ a4.length c4_), (5, .int .i64 a5), (13, .bool x1), (14, .pointer none), (16, .int .i64 x7)]) rfl
     refine wp_region_lit ?_
     refine mv F rfl fun a F => ?_
     refine qw F (r_add (F.t 43 rfl) (F.ev (x := .const (.int .i64 1)) rfl)) fun a F => ?_
     refine as_ F rfl fun a F => ?_
     refine wpList_nil ?_
     try dsimp only at j_8
     obtain rfl := Option.some.inj j_8
     exact ⟨_, rfl, F.only [0, 1, 2, 3, 4, 5, 13, 14, 15, 16] rfl, H.px2.px1.px0⟩
    ·rw [if_neg c13] at j_8
     rw [Bool.eq_false_iff.2 c13] at F
     refine wp_cond_false (F.ev rfl) ?_
     refine wp_exit ?_
     try dsimp only at j_8
     obtain rfl := Option.some.inj j_8
     obtain rfl := u_8 _ rfl
     repeat (with_reducible refine exT ?_)
     with_reducible refine exB ?_
     exact ⟨_, rfl, F.only [0, 1, 2, 3, 4, 5, 13, 14, 15] rfl, H⟩
  ·rintro a w ⟨x8, rfl, F, H⟩
   try dsimp only at h F H
   refine wp_seq ?_
   refine rg ?_
   refine as_ F (v := .int .i64 0) rfl fun a F => ?_
   refine rgend ?_
   obtain ⟨o_22, k_22, h⟩ := Option.bind_eq_some_iff.1 h
   refine cut (fun a w => ∃ (x22 : Int), x22 = o_22 ∧ Fr 199 [] [(0, .slice A0_ a0.length c0_), (1, .slice A1_ a1.length c1_), (2, .slice A2_ a2.length c2_), (3, .slice A3_ a3.length c3_), (4, .slice A4_ a4.length c4_), (5, .int .i64 a5), (13, .bool x1), (14, .pointer none), (15, .int .i64 x22)] a ∧ Hp w0 (rd kByte A0_ c0_ a0 :: rd (kSlice kByte) A1_ c1_ a1 :: rd (kSlice kByte) A2_ c2_ a2 :: rd (kSlice kByte) A3_ c3_ a3 :: rd kBool A4_ c4_ a4 :: ps) fs w) (wp_block ?_) ?_
   ·refine wloop (law18_StoreSynced_b1 a2) (fun (s : Int × Int) a w => Fr 199 [] [(0, .slice A0_ a0.length c0_), (1, .slice A1_ a1.length c1_), (2, .slice A2_ a2.length c2_), (3, .slice A3_ a3.length c3_), (4, .slice A4_ a4.length c4_), (5, .int .i64 a5), (13, .bool x1), (14, .pointer none), (15, .int .i64 s.1), (17, .int .i64 s.2)] a ∧ Hp w0 (rd kByte A0_ c0_ a0 :: rd (kSlice kByte) A1_ c1_ a1 :: rd (kSlice kByte) A2_ c2_ a2 :: rd (kSlice kByte) A3_ c3_ a3 :: rd kBool A4_ c4_ a4 :: ps) fs w) k_22 ⟨F.only [0, 1, 2, 3, 4, 5, 13, 14, 15, 17] rfl, H⟩ ?_
    rintro ⟨x20, x21⟩ a w q_22 j_22 u_22 ⟨F, H⟩
    unfold law18_StoreSynced_b1 at j_22
    try dsimp only at j_22 F H
    refine wp_seq ?_
    refine wp_seq ?_
    obtain ⟨o_24, k_24, j_22⟩ := Option.bind_eq_some_iff.1 j_22
    refine cut (fun a w => ∃ (x24 : Bool), x24 = o_24 ∧ Fr 199 [] [(0, .slice A0_ a0.length c0_), (1, .slice A1_ a1.length c1_), (2, .slice A2_ a2.length c2_), (3, .slice A3_ a3.length c3_), (4, .slice A4_ a4.length c4_), (5, .int .i64 a5), (13, .bool x1), (14, .pointer none), (15, .int .i64 x20), (17, .int .i64 x21), (60, .bool x24)] a ∧ Hp w0 (rd kByte A0_ c0_ a0 :: rd (kSlice kByte) A1_ c1_ a1 :: rd (kSlice kByte) A2_ c2_ a2 :: rd (kSlice kByte) A3_ c3_ a3 :: rd kBool A4_ c4_ a4 :: ps) fs w) ?_ ?_
    ·skip
     refine wp_region_lit ?_
     refine mv F rfl fun a F => ?_
     refine mv F rfl fun a F => ?_
     refine qw F (r_len (F.t 54 rfl) Try.underlying30) fun a F => ?_
     refine qw F (r_lt (F.t 53 rfl) (F.t 55 rfl)) fun a F => ?_
     refine mv F rfl fun a F => ?_
     by_cases c26 : x21 < (a2.length : Int)
     ·rw [if_pos c26] at k_24
      rw [decide_eq_true c26] at F
      refine mv F rfl fun a F => ?_
      refine qw F (r_lt (F.t 58 rfl) (F.ev (x := .const (.int .i64 9000)) rfl)) fun a F => ?_
      refine qw F (r_pickT (F.t 57 rfl) (F.t 59 rfl)) fun a F => ?_
      refine wpList_nil ?_
      replace F := F.only [60, 0, 1, 2, 3, 4, 5, 13, 14, 15, 17] (l' := [(60, .bool (decide (x20 < 9000))), (0, .slice A0_ a0.length c0_), (1, .slice A1_ a1.length c1_), (2, .slice A2_ a2.length c2_), (3, .slice A3_ a3.length c3_), (4, .slice A4_ a4.length c4_), (5, .int .i64 a5), (13, .bool x1), (14, .pointer none), (15, .int .i64 x20), (17, .int .i64 x21)]) rfl
      try dsimp only at k_24
      obtain rfl := Option.some.inj k_24
      exact ⟨_, rfl, F.only [0, 1, 2, 3, 4, 5, 13, 14, 15, 17, 60] rfl, H⟩
     ·rw [if_neg c26] at k_24
      rw [decide_eq_false c26] at F
      refine of_ F fun a F => ?_
      refine of_ F fun a F => ?_
      refine qw F (r_pickF (F.t 57 rfl) (F.ev (x := .const (.bool false)) rfl)) fun a F => ?_
      refine wpList_nil ?_
      replace F := F.only [60, 0, 1, 2, 3, 4, 5, 13, 14, 15, 17] (l' := [(60, .bool false), (0, .slice A0_ a0.length c0_), (1, .slice A1_ a1.length c1_), (2, .slice A2_ a2.length c2_), (3, .slice A3_ a3.length c3_), (4, .slice A4_ a4.length c4_), (5, .int .i64 a5), (13, .bool x1), (14, .pointer none), (15, .int .i64 x20), (17, .int .i64 x21)]) rfl
      try dsimp only at k_24
      obtain rfl := Option.some.inj k_24
      exact ⟨_, rfl, F.only [0, 1, 2, 3, 4, 5, 13, 14, 15, 17, 60] rfl, H⟩
    ·rintro a w ⟨x24, rfl, F, H⟩
     try dsimp only at j_22 F H
     by_cases c27 : x24 = true
     ·rw [if_pos c27] at j_22
      rw [c27] at F
      refine wp_cond_true (F.ev rfl) ?_
      refine wp_skip ?_
      refine wp_seq ?_
      refine wp_block ?_
      refine wp_region_lit ?_
      refine mv F rfl fun a F => ?_
      refine mv F rfl fun a F => ?_
      refine mv F rfl fun a F => ?_
      obtain ⟨c28, j_22⟩ := guardO j_22
      obtain ⟨g29, o30, s31, hr, H⟩ := H.ix [] 2 rfl (F.t 64 rfl) (F.t 65 rfl) Try.underlying30 sz29 (by decide) c28.1 c28.2
      obtain ⟨A32, c33, rfl, H⟩ := H.says_slice 1 rfl
      refine qw F (hr _ _ _ _ _ _) fun a F => ?_
      refine qw F (r_ld (F.t 66 rfl) (range_cell (j := 0) (H.range 1 rfl) rfl) one29) fun a F => ?_
      refine qw F (r_len (F.t 67 rfl) Try.underlying29) fun a F => ?_
      refine qw F (r_min (F.t 68 rfl) (F.ev (x := .const (.int .i64 9000)) rfl)) fun a F => ?_
      refine qw F (r_add (F.t 63 rfl) (F.t 69 rfl)) fun a F => ?_
      refine as_ F rfl fun a F => ?_
      refine wpList_nil ?_
      replace F := F.only [15, 0, 1, 2, 3, 4, 5, 13, 14, 17] (l' := [(15, .int .i64 (IntKind.i64.wrap (x20 + (min (((a2.getD (x21 : Int).toNat [])).length : Int) 9000)))), (0, .slice A0_ a0.length c0_), (1, .slice A1_ a1.length c1_), (2, .slice A2_ a2.length c2_), (3, .slice A3_ a3.length c3_), (4, .slice A4_ a4.length c4_), (5, .int .i64 a5), (13, .bool x1), (14, .pointer none), (17, .int .i64 x21)]) rfl
      refine wp_region_lit ?_
      refine mv F rfl fun a F => ?_
      refine qw F (r_add (F.t 61 rfl) (F.ev (x := .const (.int .i64 1)) rfl)) fun a F => ?_
      refine as_ F rfl fun a F => ?_
      refine wpList_nil ?_
      try dsimp only at j_22
      obtain rfl := Option.some.inj j_22
      exact ⟨_, rfl, F.only [0, 1, 2, 3, 4, 5, 13, 14, 15, 17] rfl, H.px2.px1.px0⟩
     ·rw [if_neg c27] at j_22
      rw [Bool.eq_false_iff.2 c27] at F
      refine wp_cond_false (F.ev rfl) ?_
      refine wp_exit ?_
      try dsimp only at j_22
      obtain rfl := Option.some.inj j_22
      obtain rfl := u_22 _ rfl
      repeat (with_reducible refine exT ?_)
      with_reducible refine exB ?_
      exact ⟨_, rfl, F.only [0, 1, 2, 3, 4, 5, 13, 14, 15] rfl, H⟩
   ·rintro a w ⟨x22, rfl, F, H⟩
    try dsimp only at h F H
    refine wp_seq ?_
    refine rg ?_
    refine mv F rfl fun a F => ?_
    refine qw F (r_peq0 (F.t 71 rfl) (F.ev (x := .const (.pointer none)) rfl) Try.underlying24) fun a F => ?_
    refine mv F rfl fun a F => ?_
    refine of_ F fun a F => ?_
    refine of_ F fun a F => ?_
    refine qw F (r_pickT (F.t 73 rfl) (F.ev (x := .const (.bool true)) rfl)) fun a F => ?_
    refine mv F rfl fun a F => ?_
    refine of_ F fun a F => ?_
    refine of_ F fun a F => ?_
    refine of_ F fun a F => ?_
    refine qw F (r_pickT (F.t 77 rfl) (F.ev (x := .const (.bool true)) rfl)) fun a F => ?_
    refine mv F rfl fun a F => ?_
    refine of_ F fun a F => ?_
    refine of_ F fun a F => ?_
    refine of_ F fun a F => ?_
    refine qw F (r_pickT (F.t 82 rfl) (F.ev (x := .const (.bool true)) rfl)) fun a F => ?_
    refine mv F rfl fun a F => ?_
    refine of_ F fun a F => ?_
    refine of_ F fun a F => ?_
    refine of_ F fun a F => ?_
    refine qw F (r_pickT (F.t 87 rfl) (F.ev (x := .const (.bool true)) rfl)) fun a F => ?_
    refine rgend ?_
    replace F := F.only [91, 0, 1, 2, 3, 4, 5, 13, 14] (l' := [(91, .bool true), (0, .slice A0_ a0.length c0_), (1, .slice A1_ a1.length c1_), (2, .slice A2_ a2.length c2_), (3, .slice A3_ a3.length c3_), (4, .slice A4_ a4.length c4_), (5, .int .i64 a5), (13, .bool x1), (14, .pointer none)]) rfl
    refine wp_cond_true (F.ev rfl) ?_
    refine wp_seq ?_
    refine wp_region_lit ?_
    refine mv F rfl fun a F => ?_
    refine qw F (r_pne0 (F.t 92 rfl) (F.ev (x := .const (.pointer none)) rfl) Try.underlying24) fun a F => ?_
    refine mv F rfl fun a F => ?_
    refine of_ F fun a F => ?_
    refine qw F (r_pickF (F.t 94 rfl) (F.ev (x := .const (.bool false)) rfl)) fun a F => ?_
    refine as_ F rfl fun a F => ?_
    refine wpList_nil ?_
    replace F := F.only [12] (l' := [(12, .bool false)]) rfl
    refine wp_ret ?_
    try dsimp only at h
    obtain rfl := Option.some.inj h
    exact RET _ _ (ret1 F rfl rfl ⟨_, rfl, rfl, H.px4.px3.px2.px1.px0⟩)
 ·try dsimp only at h
  refine ls (call F Try.func11 (disk_New_ok (H) e4) rfl rfl fun v w hR a F => ?_)
  obtain ⟨g34, rfl, H⟩ := hR
  refine as_ F rfl fun a F => ?_
  refine rgend ?_
  refine rg ?_
  refine mv F rfl fun a F => ?_
  refine qw F (r_len (F.t 27 rfl) Try.underlying30) fun a F => ?_
  refine mv F rfl fun a F => ?_
  refine qw F (r_len (F.t 29 rfl) Try.underlying30) fun a F => ?_
  refine qw F (r_add (F.t 28 rfl) (F.t 30 rfl)) fun a F => ?_
  refine mv F rfl fun a F => ?_
  refine qw F (r_len (F.t 32 rfl) Try.underlying30) fun a F => ?_
  refine qw F (r_add (F.t 31 rfl) (F.t 33 rfl)) fun a F => ?_
  refine as_ F rfl fun a F => ?_
  refine rgend ?_
  replace F := F.only [15, 14, 13, 0, 1, 2, 3, 4, 5] (l' := [(15, .int .i64 (IntKind.i64.wrap ((IntKind.i64.wrap ((a1.length : Int) + (a2.length : Int))) + (a3.length : Int)))), (14, .pointer (some ⟨g34, 0, none⟩)), (13, .bool x1), (0, .slice A0_ a0.length c0_), (1, .slice A1_ a1.length c1_), (2, .slice A2_ a2.length c2_), (3, .slice A3_ a3.length c3_), (4, .slice A4_ a4.length c4_), (5, .int .i64 a5)]) rfl
  refine wp_seq ?_
  refine rg ?_
  refine as_ F (v := .int .i64 0) rfl fun a F => ?_
  refine rgend ?_
  obtain ⟨o_37, k_37, h⟩ := Option.bind_eq_some_iff.1 h
  refine cut (fun a w => ∃ (x37 : Int), x37 = o_37 ∧ Fr 199 [] [(0, .slice A0_ a0.length c0_), (1, .slice A1_ a1.length c1_), (2, .slice A2_ a2.length c2_), (3, .slice A3_ a3.length c3_), (4, .slice A4_ a4.length c4_), (5, .int .i64 a5), (13, .bool x1), (14, .pointer (some ⟨g34, 0, none⟩)), (15, .int .i64 x37)] a ∧ Hp w0 (rd kByte A0_ c0_ a0 :: rd (kSlice kByte) A1_ c1_ a1 :: rd (kSlice kByte) A2_ c2_ a2 :: rd (kSlice kByte) A3_ c3_ a3 :: rd kBool A4_ c4_ a4 :: ps) (obj_disk_Disk g34 x5 :: fs) w) (wp_block ?_) ?_
  ·refine wloop (law18_StoreSynced_b2 a1) (fun (s : Int × Int) a w => Fr 199 [] [(0, .slice A0_ a0.length c0_), (1, .slice A1_ a1.length c1_), (2, .slice A2_ a2.length c2_), (3, .slice A3_ a3.length c3_), (4, .slice A4_ a4.length c4_), (5, .int .i64 a5), (13, .bool x1), (14, .pointer (some ⟨g34, 0, none⟩)), (15, .int .i64 s.1), (16, .int .i64 s.2)] a ∧ Hp w0 (rd kByte A0_ c0_ a0 :: rd (kSlice kByte) A1_ c1_ a1 :: rd (kSlice kByte) A2_ c2_ a2 :: rd (kSlice kByte) A3_ c3_ a3 :: rd kBool A4_ c4_ a4 :: ps) (obj_disk_Disk g34 x5 :: fs) w) k_37 ⟨F.only [0, 1, 2, 3, 4, 5, 13, 14, 15, 16] rfl, H⟩ ?_
   rintro ⟨x35, x36⟩ a w q_37 j_37 u_37 ⟨F, H⟩
   unfold law18_StoreSynced_b2 at j_37
   try dsimp only at j_37 F H
   refine wp_seq ?_
   refine wp_seq ?_
   obtain ⟨o_39, k_39, j_37⟩ := Option.bind_eq_some_iff.1 j_37
   refine cut (fun a w => ∃ (x39 : Bool), x39 = o_39 ∧ Fr 199 [] [(0, .slice A0_ a0.length c0_), (1, .slice A1_ a1.length c1_), (2, .slice A2_ a2.length c2_), (3, .slice A3_ a3.length c3_), (4, .slice A4_ a4.length c4_), (5, .int .i64 a5), (13, .bool x1), (14, .pointer (some ⟨g34, 0, none⟩)), (15, .int .i64 x35), (16, .int .i64 x36), (42, .bool x39)] a ∧ Hp w0 (rd kByte A0_ c0_ a0 :: rd (kSlice kByte) A1_ c1_ a1 :: rd (kSlice kByte) A2_ c2_ a2 :: rd (kSlice kByte) A3_ c3_ a3 :: rd kBool A4_ c4_ a4 :: ps) (obj_disk_Disk g34 x5 :: fs) w) ?_ ?_
   ·skip
    refine wp_region_lit ?_
    refine mv F rfl fun a F => ?_
    refine mv F rfl fun a F => ?_
    refine qw F (r_len (F.t 36 rfl) Try.underlying30) fun a F => ?_
    refine qw F (r_lt (F.t 35 rfl) (F.t 37 rfl)) fun a F => ?_
    refine mv F rfl fun a F => ?_
    by_cases c41 : x36 < (a1.length : Int)
    ·rw [if_pos c41] at k_39
     rw [decide_eq_true c41] at F
     refine mv F rfl fun a F => ?_
     refine qw F (r_lt (F.t 40 rfl) (F.ev (x := .const (.int .i64 9000)) rfl)) fun a F => ?_
     refine qw F (r_pickT (F.t 39 rfl) (F.t 41 rfl)) fun a F => ?_
     refine wpList_nil ?_
     replace F := F.only [42, 0, 1, 2, 3, 4, 5, 13, 14, 15, 16] (l' := [(42, .bool (decide (x35 < 9000))), (0, .slice A0_ a0.length c0_), (1, .slice A1_ a1.length c1_), (2, .slice A2_ a2.length c2_), (3, .slice A3_ a3.length c3_), (4, .slice A4_ a4.length c4_), (5, .int .i64 a5), (13, .bool x1), (14, .pointer (some ⟨g34, 0, none⟩)), (15, .int .i64 x35), (16, .int .i64 x36)]) rfl
     try dsimp only at k_39
     obtain rfl := Option.some.inj k_39
     exact ⟨_, rfl, F.only [0, 1, 2, 3, 4, 5, 13, 14, 15, 16, 42] rfl, H⟩
    ·rw [if_neg c41] at k_39
     rw [decide_eq_false c41] at F
     refine of_ F fun a F => ?_
     refine of_ F fun a F => ?_
     refine qw F (r_pickF (F.t 39 rfl) (F.ev (x := .const (.bool false)) rfl)) fun a F => ?_
     refine wpList_nil ?_
     replace F := F.only [42, 0, 1, 2, 3, 4, 5, 13, 14, 15, 16] (l' := [(42, .bool false), (0, .slice A0_ a0.length c0_), (1, .slice A1_ a1.length c1_), (2, .slice A2_ a2.length c2_), (3, .slice A3_ a3.length c3_), (4, .slice A4_ a4.length c4_), (5, .int .i64 a5), (13, .bool x1), (14, .pointer (some ⟨g34, 0, none⟩)), (15, .int .i64 x35), (16, .int .i64 x36)]) rfl
     try dsimp only at k_39
     obtain rfl := Option.some.inj k_39
     exact ⟨_, rfl, F.only [0, 1, 2, 3, 4, 5, 13, 14, 15, 16, 42] rfl, H⟩
   ·rintro a w ⟨x39, rfl, F, H⟩
    try dsimp only at j_37 F H
    by_cases c42 : x39 = true
    ·rw [if_pos c42] at j_37
     rw [c42] at F
     refine wp_cond_true (F.ev rfl) ?_
     refine wp_skip ?_
     refine wp_seq ?_
     refine wp_block ?_
     refine wp_region_lit ?_
     refine mv F rfl fun a F => ?_
     refine mv F rfl fun a F => ?_
     refine mv F rfl fun a F => ?_
     obtain ⟨c43, j_37⟩ := guardO j_37
     obtain ⟨g44, o45, s46, hr, H⟩ := H.ix [] 1 rfl (F.t 46 rfl) (F.t 47 rfl) Try.underlying30 sz29 (by decide) c43.1 c43.2
     obtain ⟨A47, c48, rfl, H⟩ := H.says_slice 1 rfl
     refine qw F (hr _ _ _ _ _ _) fun a F => ?_
     refine qw F (r_ld (F.t 48 rfl) (range_cell (j := 0) (H.range 1 rfl) rfl) one29) fun a F => ?_
     refine qw F (r_len (F.t 49 rfl) Try.underlying29) fun a F => ?_
     refine qw F (r_min (F.t 50 rfl) (F.ev (x := .const (.int .i64 9000)) rfl)) fun a F => ?_
     refine qw F (r_add (F.t 45 rfl) (F.t 51 rfl)) fun a F => ?_
     refine as_ F rfl fun a F => ?_
     refine wpList_nil ?_
     replace F := F.only [15, 0, 1, 2, 3, 4, 5, 13, 14, 16] (l' := [(15, .int .i64 (IntKind.i64.wrap (x35 + (min (((a1.getD (x36 : Int).toNat [])).length : Int) 9000)))), (0, .slice A0_ a0.length c0_), (1, .slice A1_ a1.length c1_), (2, .slice A2_ a2.length c2_), (3, .slice A3_ a3.length c3_), (4, .slice A4_ a4.length c4_), (5, .int .i64 a5), (13, .bool x1), (14, .pointer (some ⟨g34, 0, none⟩)), (16, .int .i64 x36)]) rfl
     refine wp_region_lit ?_
     refine mv F rfl fun a F => ?_
     refine qw F (r_add (F.t 43 rfl) (F.ev (x := .const (.int .i64 1)) rfl)) fun a F => ?_
     refine as_ F rfl fun a F => ?_
     refine wpList_nil ?_
     try dsimp only at j_37
     obtain rfl := Option.some.inj j_37
     exact ⟨_, rfl, F.only [0, 1, 2, 3, 4, 5, 13, 14, 15, 16] rfl, H.px2.px1.px0⟩
    ·rw [if_neg c42] at j_37
     rw [Bool.eq_false_iff.2 c42] at F
     refine wp_cond_false (F.ev rfl) ?_
     refine wp_exit ?_
     try dsimp only at j_37
     obtain rfl := Option.some.inj j_37
     obtain rfl := u_37 _ rfl
     repeat (with_reducible refine exT ?_)
     with_reducible refine exB ?_
     exact ⟨_, rfl, F.only [0, 1, 2, 3, 4, 5, 13, 14, 15] rfl, H⟩
  ·rintro a w ⟨x37, rfl, F, H⟩
   try dsimp only at h F H
   refine wp_seq ?_
   refine rg ?_
   refine as_ F (v := .int .i64 0) rfl fun a F => ?_
   refine rgend ?_
   obtain ⟨o_51, k_51, h⟩ := Option.bind_eq_some_iff.1 h
   refine cut (fun a w => ∃ (x51 : Int), x51 = o_51 ∧ Fr 199 [] [(0, .slice A0_ a0.length c0_), (1, .slice A1_ a1.length c1_), (2, .slice A2_ a2.length c2_), (3, .slice A3_ a3.length c3_), (4, .slice A4_ a4.length c4_), (5, .int .i64 a5), (13, .bool x1), (14, .pointer (some ⟨g34, 0, none⟩)), (15, .int .i64 x51)] a ∧ Hp w0 (rd kByte A0_ c0_ a0 :: rd (kSlice kByte) A1_ c1_ a1 :: rd (kSlice kByte) A2_ c2_ a2 :: rd (kSlice kByte) A3_ c3_ a3 :: rd kBool A4_ c4_ a4 :: ps) (obj_disk_Disk g34 x5 :: fs) w) (wp_block ?_) ?_
   ·refine wloop (law18_StoreSynced_b3 a2) (fun (s : Int × Int) a w => Fr 199 [] [(0, .slice A0_ a0.length c0_), (1, .slice A1_ a1.length c1_), (2, .slice A2_ a2.length c2_), (3, .slice A3_ a3.length c3_), (4, .slice A4_ a4.length c4_), (5, .int .i64 a5), (13, .bool x1), (14, .pointer (some ⟨g34, 0, none⟩)), (15, .int .i64 s.1), (17, .int .i64 s.2)] a ∧ Hp w0 (rd kByte A0_ c0_ a0 :: rd (kSlice kByte) A1_ c1_ a1 :: rd (kSlice kByte) A2_ c2_ a2 :: rd (kSlice kByte) A3_ c3_ a3 :: rd kBool A4_ c4_ a4 :: ps) (obj_disk_Disk g34 x5 :: fs) w) k_51 ⟨F.only [0, 1, 2, 3, 4, 5, 13, 14, 15, 17] rfl, H⟩ ?_
    rintro ⟨x49, x50⟩ a w q_51 j_51 u_51 ⟨F, H⟩
    unfold law18_StoreSynced_b3 at j_51
    try dsimp only at j_51 F H
    refine wp_seq ?_
    refine wp_seq ?_
    obtain ⟨o_53, k_53, j_51⟩ := Option.bind_eq_some_iff.1 j_51
    refine cut (fun a w => ∃ (x53 : Bool), x53 = o_53 ∧ Fr 199 [] [(0, .slice A0_ a0.length c0_), (1, .slice A1_ a1.length c1_), (2, .slice A2_ a2.length c2_), (3, .slice A3_ a3.length c3_), (4, .slice A4_ a4.length c4_), (5, .int .i64 a5), (13, .bool x1), (14, .pointer (some ⟨g34, 0, none⟩)), (15, .int .i64 x49), (17, .int .i64 x50), (60, .bool x53)] a ∧ Hp w0 (rd kByte A0_ c0_ a0 :: rd (kSlice kByte) A1_ c1_ a1 :: rd (kSlice kByte) A2_ c2_ a2 :: rd (kSlice kByte) A3_ c3_ a3 :: rd kBool A4_ c4_ a4 :: ps) (obj_disk_Disk g34 x5 :: fs) w) ?_ ?_
    ·skip
     refine wp_region_lit ?_
     refine mv F rfl fun a F => ?_
     refine mv F rfl fun a F => ?_
     refine qw F (r_len (F.t 54 rfl) Try.underlying30) fun a F => ?_
     refine qw F (r_lt (F.t 53 rfl) (F.t 55 rfl)) fun a F => ?_
     refine mv F rfl fun a F => ?_
     by_cases c55 : x50 < (a2.length : Int)
     ·rw [if_pos c55] at k_53
      rw [decide_eq_true c55] at F
      refine mv F rfl fun a F => ?_
      refine qw F (r_lt (F.t 58 rfl) (F.ev (x := .const (.int .i64 9000)) rfl)) fun a F => ?_
      refine qw F (r_pickT (F.t 57 rfl) (F.t 59 rfl)) fun a F => ?_
      refine wpList_nil ?_
      replace F := F.only [60, 0, 1, 2, 3, 4, 5, 13, 14, 15, 17] (l' := [(60, .bool (decide (x49 < 9000))), (0, .slice A0_ a0.length c0_), (1, .slice A1_ a1.length c1_), (2, .slice A2_ a2.length c2_), (3, .slice A3_ a3.length c3_), (4, .slice A4_ a4.length c4_), (5, .int .i64 a5), (13, .bool x1), (14, .pointer (some ⟨g34, 0, none⟩)), (15, .int .i64 x49), (17, .int .i64 x50)]) rfl
      try dsimp only at k_53
      obtain rfl := Option.some.inj k_53
      exact ⟨_, rfl, F.only [0, 1, 2, 3, 4, 5, 13, 14, 15, 17, 60] rfl, H⟩
     ·rw [if_neg c55] at k_53
      rw [decide_eq_false c55] at F
      refine of_ F fun a F => ?_
      refine of_ F fun a F => ?_
      refine qw F (r_pickF (F.t 57 rfl) (F.ev (x := .const (.bool false)) rfl)) fun a F => ?_
      refine wpList_nil ?_
      replace F := F.only [60, 0, 1, 2, 3, 4, 5, 13, 14, 15, 17] (l' := [(60, .bool false), (0, .slice A0_ a0.length c0_), (1, .slice A1_ a1.length c1_), (2, .slice A2_ a2.length c2_), (3, .slice A3_ a3.length c3_), (4, .slice A4_ a4.length c4_), (5, .int .i64 a5), (13, .bool x1), (14, .pointer (some ⟨g34, 0, none⟩)), (15, .int .i64 x49), (17, .int .i64 x50)]) rfl
      try dsimp only at k_53
      obtain rfl := Option.some.inj k_53
      exact ⟨_, rfl, F.only [0, 1, 2, 3, 4, 5, 13, 14, 15, 17, 60] rfl, H⟩
    ·rintro a w ⟨x53, rfl, F, H⟩
     try dsimp only at j_51 F H
     by_cases c56 : x53 = true
     ·rw [if_pos c56] at j_51
      rw [c56] at F
      refine wp_cond_true (F.ev rfl) ?_
      refine wp_skip ?_
      refine wp_seq ?_
      refine wp_block ?_
      refine wp_region_lit ?_
      refine mv F rfl fun a F => ?_
      refine mv F rfl fun a F => ?_
      refine mv F rfl fun a F => ?_
      obtain ⟨c57, j_51⟩ := guardO j_51
      obtain ⟨g58, o59, s60, hr, H⟩ := H.ix [] 2 rfl (F.t 64 rfl) (F.t 65 rfl) Try.underlying30 sz29 (by decide) c57.1 c57.2
      obtain ⟨A61, c62, rfl, H⟩ := H.says_slice 1 rfl
      refine qw F (hr _ _ _ _ _ _) fun a F => ?_
      refine qw F (r_ld (F.t 66 rfl) (range_cell (j := 0) (H.range 1 rfl) rfl) one29) fun a F => ?_
      refine qw F (r_len (F.t 67 rfl) Try.underlying29) fun a F => ?_
      refine qw F (r_min (F.t 68 rfl) (F.ev (x := .const (.int .i64 9000)) rfl)) fun a F => ?_
      refine qw F (r_add (F.t 63 rfl) (F.t 69 rfl)) fun a F => ?_
      refine as_ F rfl fun a F => ?_
      refine wpList_nil ?_
      replace F := F.only [15, 0, 1, 2, 3, 4, 5, 13, 14, 17] (l' := [(15, .int .i64 (IntKind.i64.wrap (x49 + (min (((a2.getD (x50 : Int).toNat [])).length : Int) 9000)))), (0, .slice A0_ a0.length c0_), (1, .slice A1_ a1.length c1_), (2, .slice A2_ a2.length c2_), (3, .slice A3_ a3.length c3_), (4, .slice A4_ a4.length c4_), (5, .int .i64 a5), (13, .bool x1), (14, .pointer (some ⟨g34, 0, none⟩)), (17, .int .i64 x50)]) rfl
      refine wp_region_lit ?_
      refine mv F rfl fun a F => ?_
      refine qw F (r_add (F.t 61 rfl) (F.ev (x := .const (.int .i64 1)) rfl)) fun a F => ?_
      refine as_ F rfl fun a F => ?_
      refine wpList_nil ?_
      try dsimp only at j_51
      obtain rfl := Option.some.inj j_51
      exact ⟨_, rfl, F.only [0, 1, 2, 3, 4, 5, 13, 14, 15, 17] rfl, H.px2.px1.px0⟩
     ·rw [if_neg c56] at j_51
      rw [Bool.eq_false_iff.2 c56] at F
      refine wp_cond_false (F.ev rfl) ?_
      refine wp_exit ?_
      try dsimp only at j_51
      obtain rfl := Option.some.inj j_51
      obtain rfl := u_51 _ rfl
      repeat (with_reducible refine exT ?_)
      with_reducible refine exB ?_
      exact ⟨_, rfl, F.only [0, 1, 2, 3, 4, 5, 13, 14, 15] rfl, H⟩
   ·rintro a w ⟨x51, rfl, F, H⟩
    try dsimp only at h F H
    refine wp_seq ?_
    refine rg ?_
    refine mv F rfl fun a F => ?_
    refine qw F (r_peq (F.t 71 rfl) (F.ev (x := .const (.pointer none)) rfl) Try.underlying24) fun a F => ?_
    refine mv F rfl fun a F => ?_
    refine mv F rfl fun a F => ?_
    refine qw F (r_ge (F.t 74 rfl) (F.ev (x := .const (.int .i64 9000)) rfl)) fun a F => ?_
    refine qw F (r_pickF (F.t 73 rfl) (F.t 75 rfl)) fun a F => ?_
    refine mv F rfl fun a F => ?_
    by_cases c63 : x51 ≥ 9000
    ·rw [if_pos c63] at h
     rw [decide_eq_true c63] at F
     refine of_ F fun a F => ?_
     refine of_ F fun a F => ?_
     refine of_ F fun a F => ?_
     refine qw F (r_pickT (F.t 77 rfl) (F.ev (x := .const (.bool true)) rfl)) fun a F => ?_
     refine mv F rfl fun a F => ?_
     refine of_ F fun a F => ?_
     refine of_ F fun a F => ?_
     refine of_ F fun a F => ?_
     refine qw F (r_pickT (F.t 82 rfl) (F.ev (x := .const (.bool true)) rfl)) fun a F => ?_
     refine mv F rfl fun a F => ?_
     refine of_ F fun a F => ?_
     refine of_ F fun a F => ?_
     refine of_ F fun a F => ?_
     refine qw F (r_pickT (F.t 87 rfl) (F.ev (x := .const (.bool true)) rfl)) fun a F => ?_
     refine rgend ?_
     replace F := F.only [91, 0, 1, 2, 3, 4, 5, 13, 14] (l' := [(91, .bool true), (0, .slice A0_ a0.length c0_), (1, .slice A1_ a1.length c1_), (2, .slice A2_ a2.length c2_), (3, .slice A3_ a3.length c3_), (4, .slice A4_ a4.length c4_), (5, .int .i64 a5), (13, .bool x1), (14, .pointer (some ⟨g34, 0, none⟩))]) rfl
     refine wp_cond_true (F.ev rfl) ?_
     refine wp_seq ?_
     refine wp_region_lit ?_
     refine mv F rfl fun a F => ?_
     refine qw F (r_pne (F.t 92 rfl) (F.ev (x := .const (.pointer none)) rfl) Try.underlying24) fun a F => ?_
     refine mv F rfl fun a F => ?_
     refine mv F rfl fun a F => ?_
     refine qw F (r_pickT (F.t 94 rfl) (F.t 95 rfl)) fun a F => ?_
     refine as_ F rfl fun a F => ?_
     refine wpList_nil ?_
     replace F := F.only [12] (l' := [(12, .bool x1)]) rfl
     refine wp_ret ?_
     try dsimp only at h
     obtain rfl := Option.some.inj h
     exact RET _ _ (ret1 F rfl rfl ⟨_, rfl, rfl, H.px4.px3.px2.px1.px0.fx0⟩)
    ·rw [if_neg c63] at h
     rw [decide_eq_false c63] at F
     refine mv F rfl fun a F => ?_
     refine qw F (r_len (F.t 78 rfl) Try.underlying30) fun a F => ?_
     refine qw F (r_gt (F.t 79 rfl) (F.ev (x := .const (.int .i64 60)) rfl)) fun a F => ?_
     refine qw F (r_pickF (F.t 77 rfl) (F.t 80 rfl)) fun a F => ?_
     refine mv F rfl fun a F => ?_
     by_cases c64 : (a3.length : Int) > 60
     ·rw [if_pos c64] at h
      rw [decide_eq_true c64] at F
      refine of_ F fun a F => ?_
      refine of_ F fun a F => ?_
      refine of_ F fun a F => ?_
      refine qw F (r_pickT (F.t 82 rfl) (F.ev (x := .const (.bool true)) rfl)) fun a F => ?_
      refine mv F rfl fun a F => ?_
      refine of_ F fun a F => ?_
      refine of_ F fun a F => ?_
      refine of_ F fun a F => ?_
      refine qw F (r_pickT (F.t 87 rfl) (F.ev (x := .const (.bool true)) rfl)) fun a F => ?_
      refine rgend ?_
      replace F := F.only [91, 0, 1, 2, 3, 4, 5, 13, 14] (l' := [(91, .bool true), (0, .slice A0_ a0.length c0_), (1, .slice A1_ a1.length c1_), (2, .slice A2_ a2.length c2_), (3, .slice A3_ a3.length c3_), (4, .slice A4_ a4.length c4_), (5, .int .i64 a5), (13, .bool x1), (14, .pointer (some ⟨g34, 0, none⟩))]) rfl
      refine wp_cond_true (F.ev rfl) ?_
      refine wp_seq ?_
      refine wp_region_lit ?_
      refine mv F rfl fun a F => ?_
      refine qw F (r_pne (F.t 92 rfl) (F.ev (x := .const (.pointer none)) rfl) Try.underlying24) fun a F => ?_
      refine mv F rfl fun a F => ?_
      refine mv F rfl fun a F => ?_
      refine qw F (r_pickT (F.t 94 rfl) (F.t 95 rfl)) fun a F => ?_
      refine as_ F rfl fun a F => ?_
      refine wpList_nil ?_
      replace F := F.only [12] (l' := [(12, .bool x1)]) rfl
      refine wp_ret ?_
      try dsimp only at h
      obtain rfl := Option.some.inj h
      exact RET _ _ (ret1 F rfl rfl ⟨_, rfl, rfl, H.px4.px3.px2.px1.px0.fx0⟩)
     ·rw [if_neg c64] at h
      rw [decide_eq_false c64] at F
      refine mv F rfl fun a F => ?_
      refine qw F (r_len (F.t 83 rfl) Try.underlying29) fun a F => ?_
      refine qw F (r_gt (F.t 84 rfl) (F.ev (x := .const (.int .i64 3000)) rfl)) fun a F => ?_
      refine qw F (r_pickF (F.t 82 rfl) (F.t 85 rfl)) fun a F => ?_
      refine mv F rfl fun a F => ?_
      by_cases c65 : (a0.length : Int) > 3000
      ·rw [if_pos c65] at h
       rw [decide_eq_true c65] at F
       refine of_ F fun a F => ?_
       refine of_ F fun a F => ?_
       refine of_ F fun a F => ?_
       refine qw F (r_pickT (F.t 87 rfl) (F.ev (x := .const (.bool true)) rfl)) fun a F => ?_
       refine rgend ?_
       replace F := F.only [91, 0, 1, 2, 3, 4, 5, 13, 14] (l' := [(91, .bool true), (0, .slice A0_ a0.length c0_), (1, .slice A1_ a1.length c1_), (2, .slice A2_ a2.length c2_), (3, .slice A3_ a3.length c3_), (4, .slice A4_ a4.length c4_), (5, .int .i64 a5), (13, .bool x1), (14, .pointer (some ⟨g34, 0, none⟩))]) rfl
       refine wp_cond_true (F.ev rfl) ?_
       refine wp_seq ?_
       refine wp_region_lit ?_
       refine mv F rfl fun a F => ?_
       refine qw F (r_pne (F.t 92 rfl) (F.ev (x := .const (.pointer none)) rfl) Try.underlying24) fun a F => ?_
       refine mv F rfl fun a F => ?_
       refine mv F rfl fun a F => ?_
       refine qw F (r_pickT (F.t 94 rfl) (F.t 95 rfl)) fun a F => ?_
       refine as_ F rfl fun a F => ?_
       refine wpList_nil ?_
       replace F := F.only [12] (l' := [(12, .bool x1)]) rfl
       refine wp_ret ?_
       try dsimp only at h
       obtain rfl := Option.some.inj h
       exact RET _ _ (ret1 F rfl rfl ⟨_, rfl, rfl, H.px4.px3.px2.px1.px0.fx0⟩)
      ·rw [if_neg c65] at h
       rw [decide_eq_false c65] at F
       refine mv F rfl fun a F => ?_
       refine qw F (r_len (F.t 88 rfl) Try.underlying33) fun a F => ?_
       refine qw F (r_gt (F.t 89 rfl) (F.ev (x := .const (.int .i64 900)) rfl)) fun a F => ?_
       refine qw F (r_pickF (F.t 87 rfl) (F.t 90 rfl)) fun a F => ?_
       refine rgend ?_
       replace F := F.only [91, 0, 1, 2, 3, 4, 5, 13, 14] (l' := [(91, .bool (decide ((a4.length : Int) > 900))), (0, .slice A0_ a0.length c0_), (1, .slice A1_ a1.length c1_), (2, .slice A2_ a2.length c2_), (3, .slice A3_ a3.length c3_), (4, .slice A4_ a4.length c4_), (5, .int .i64 a5), (13, .bool x1), (14, .pointer (some ⟨g34, 0, none⟩))]) rfl
       by_cases c66 : (a4.length : Int) > 900
       ·rw [if_pos c66] at h
        rw [decide_eq_true c66] at F
        refine wp_cond_true (F.ev rfl) ?_
        refine wp_seq ?_
        refine wp_region_lit ?_
        refine mv F rfl fun a F => ?_
        refine qw F (r_pne (F.t 92 rfl) (F.ev (x := .const (.pointer none)) rfl) Try.underlying24) fun a F => ?_
        refine mv F rfl fun a F => ?_
        refine mv F rfl fun a F => ?_
        refine qw F (r_pickT (F.t 94 rfl) (F.t 95 rfl)) fun a F => ?_
        refine as_ F rfl fun a F => ?_
        refine wpList_nil ?_
        replace F := F.only [12] (l' := [(12, .bool x1)]) rfl
        refine wp_ret ?_
        try dsimp only at h
        obtain rfl := Option.some.inj h
        exact RET _ _ (ret1 F rfl rfl ⟨_, rfl, rfl, H.px4.px3.px2.px1.px0.fx0⟩)
       ·rw [if_neg c66] at h
        rw [decide_eq_false c66] at F
        refine wp_cond_false (F.ev rfl) ?_
        refine wp_skip ?_
        refine rg ?_
        refine mv F rfl fun a F => ?_
        obtain ⟨x67, e68, h⟩ := Option.bind_eq_some_iff.1 h
        try dsimp only at h
        refine ls (call F Try.func13 (store_Open_ok (H) e68) rfl rfl fun v w hR a F => ?_)
        obtain ⟨g69, rfl, H⟩ := hR
        refine as_ F rfl fun a F => ?_
        refine rgend ?_
        refine wp_seq ?_
        refine rg ?_
        refine mv F rfl fun a F => ?_
        refine qw F (r_peq (F.t 99 rfl) (F.ev (x := .const (.pointer none)) rfl) Try.underlying27) fun a F => ?_
        refine rgend ?_
        replace F := F.only [100, 18, 0, 1, 2, 3, 4, 5, 13, 14] (l' := [(100, .bool false), (18, .pointer (some ⟨g69, 0, none⟩)), (0, .slice A0_ a0.length c0_), (1, .slice A1_ a1.length c1_), (2, .slice A2_ a2.length c2_), (3, .slice A3_ a3.length c3_), (4, .slice A4_ a4.length c4_), (5, .int .i64 a5), (13, .bool x1), (14, .pointer (some ⟨g34, 0, none⟩))]) rfl
        refine wp_cond_false (F.ev rfl) ?_
        refine wp_skip ?_
        refine wp_seq ?_
        refine rg ?_
        refine mv F rfl fun a F => ?_
        refine mv F rfl fun a F => ?_
        refine mv F rfl fun a F => ?_
        obtain ⟨⟨x70, x71, x72⟩, e73, h⟩ := Option.bind_eq_some_iff.1 h
        try dsimp only at h
        refine ls (call F Try.func21 (store_Store_Begin_ok (H.p1.p1) e73) rfl rfl fun v w hR a F => ?_)
        obtain ⟨rfl, H⟩ := hR
        refine qw F (r_ne (F.t 104 rfl) (F.ev (x := .const (.int .i64 0)) rfl)) fun a F => ?_
        refine rgend ?_
        replace F := F.only [105, 18, 0, 1, 2, 3, 4, 5, 13, 14] (l' := [(105, .bool (decide (x70 ≠ 0))), (18, .pointer (some ⟨g69, 0, none⟩)), (0, .slice A0_ a0.length c0_), (1, .slice A1_ a1.length c1_), (2, .slice A2_ a2.length c2_), (3, .slice A3_ a3.length c3_), (4, .slice A4_ a4.length c4_), (5, .int .i64 a5), (13, .bool x1), (14, .pointer (some ⟨g34, 0, none⟩))]) rfl
        by_cases c74 : x70 ≠ 0
        ·rw [if_pos c74] at h
         rw [decide_eq_true c74] at F
         refine wp_cond_true (F.ev rfl) ?_
         refine rg ?_
         refine mv F rfl fun a F => ?_
         refine as_ F rfl fun a F => ?_
         refine rgend ?_
         replace F := F.only [12] (l' := [(12, .bool x1)]) rfl
         refine wp_ret ?_
         try dsimp only at h
         obtain rfl := Option.some.inj h
         exact RET _ _ (ret1 F rfl rfl ⟨_, rfl, rfl, H.px4.px3.px2.px1.px0.fx1.fx0⟩)
        ·rw [if_neg c74] at h
         rw [decide_eq_false c74] at F
         refine wp_cond_false (F.ev rfl) ?_
         refine wp_skip ?_
         refine rg ?_
         refine ls (lbs F H (e := 29) (vs := []) (cs := []) rfl (fun w => by kernel_rfl) fun g75 w a H F => ?_)
         refine mv F rfl fun a F => ?_
         replace H := Hp.litOwn (kd := (kSlice kByte)) (xs := []) (H) (SayL.nil) (Nat.le_of_ble_eq_true rfl)
         obtain ⟨c76, h⟩ := guardO h
         obtain ⟨A77, c78, _, hr, H⟩ := Hp.appendRd (kd := (kSlice kByte)) (xs := []) (ys := a1) (H) 1 rfl (F.t 107 rfl) (F.t 108 rfl) Try.underlying30 ti29 rfl (by decide) (by decide) c76
         rw [List.nil_append] at hr H
         refine qw F (hr _ _ _ _ _) fun a F => ?_
         refine as_ F rfl fun a F => ?_
         refine rgend ?_
         replace F := F.only [19, 18, 0, 2, 3, 4, 5, 13, 14] (l' := [(19, .slice A77 a1.length c78), (18, .pointer (some ⟨g69, 0, none⟩)), (0, .slice A0_ a0.length c0_), (2, .slice A2_ a2.length c2_), (3, .slice A3_ a3.length c3_), (4, .slice A4_ a4.length c4_), (5, .int .i64 a5), (13, .bool x1), (14, .pointer (some ⟨g34, 0, none⟩))]) rfl
         refine wp_seq ?_
         refine rg ?_
         refine as_ F (v := .int .i64 0) rfl fun a F => ?_
         refine rgend ?_
         obtain ⟨o_89, k_89, h⟩ := Option.bind_eq_some_iff.1 h
         refine cut (fun a w => ∃ (x85 : List (List Int)) (x88 : disk_Disk) (x89 : store_Store), (x85, x88, x89) = o_89 ∧ ∃ (A86 : Option Addr) (c87 : Nat), Fr 199 [] [(0, .slice A0_ a0.length c0_), (3, .slice A3_ a3.length c3_), (4, .slice A4_ a4.length c4_), (5, .int .i64 a5), (13, .bool x1), (14, .pointer (some ⟨g34, 0, none⟩)), (18, .pointer (some ⟨g69, 0, none⟩)), (19, .slice A86 x85.length c87)] a ∧ Hp w0 (rd kByte A0_ c0_ a0 :: rd (kSlice kByte) A3_ c3_ a3 :: rd kBool A4_ c4_ a4 :: ps) (own (kSlice kByte) 29 A86 c87 x85 :: obj_disk_Disk g34 x88 :: obj_store_Store g69 g34 x89 :: fs) w) (wp_block ?_) ?_
         ·refine wloop (law18_StoreSynced_b4 a2) (fun (s : (List (List Int)) × Int × disk_Disk × store_Store) a w => ∃ (A80 : Option Addr) (c81 : Nat), Fr 199 [] [(0, .slice A0_ a0.length c0_), (2, .slice A2_ a2.length c2_), (3, .slice A3_ a3.length c3_), (4, .slice A4_ a4.length c4_), (5, .int .i64 a5), (13, .bool x1), (14, .pointer (some ⟨g34, 0, none⟩)), (18, .pointer (some ⟨g69, 0, none⟩)), (19, .slice A80 s.1.length c81), (20, .int .i64 s.2.1)] a ∧ Hp w0 (rd kByte A0_ c0_ a0 :: rd (kSlice kByte) A2_ c2_ a2 :: rd (kSlice kByte) A3_ c3_ a3 :: rd kBool A4_ c4_ a4 :: ps) (own (kSlice kByte) 29 A80 c81 s.1 :: obj_disk_Disk g34 s.2.2.1 :: obj_store_Store g69 g34 s.2.2.2 :: fs) w) k_89 ⟨A77, c78, F.only [0, 2, 3, 4, 5, 13, 14, 18, 19, 20] rfl, H.px1.f1.f2.f2⟩ ?_
          rintro ⟨x79, x82, x83, x84⟩ a w q_89 j_89 u_89 ⟨A80, c81, F, H⟩
          unfold law18_StoreSynced_b4 at j_89
          try dsimp only at j_89 F H
          refine wp_seq ?_
          refine rg ?_
          refine mv F rfl fun a F => ?_
          refine mv F rfl fun a F => ?_
          refine qw F (r_len (F.t 111 rfl) Try.underlying30) fun a F => ?_
          refine qw F (r_lt (F.t 110 rfl) (F.t 112 rfl)) fun a F => ?_
          refine rgend ?_
          by_cases c91 : x82 < (a2.length : Int)
          ·rw [if_pos c91] at j_89
           rw [decide_eq_true c91] at F
           refine wp_cond_true (F.ev rfl) ?_
           refine wp_skip ?_
           refine wp_seq ?_
           refine wp_block ?_
           refine rg ?_
           refine mv F rfl fun a F => ?_
           refine mv F rfl fun a F => ?_
           refine mv F rfl fun a F => ?_
           obtain ⟨c92, j_89⟩ := guardO j_89
           obtain ⟨g93, o94, s95, hr, H⟩ := H.ix [] 1 rfl (F.t 117 rfl) (F.t 118 rfl) Try.underlying30 sz29 (by decide) c92.1 c92.2
           obtain ⟨A96, c97, rfl, H⟩ := H.says_slice 1 rfl
           refine qw F (hr _ _ _ _ _ _) fun a F => ?_
           refine qw F (r_ld (F.t 119 rfl) (range_cell (j := 0) (H.range 1 rfl) rfl) one29) fun a F => ?_
           obtain ⟨⟨x98, x99, x100⟩, e101, j_89⟩ := Option.bind_eq_some_iff.1 j_89
           try dsimp only at j_89
           refine ls (call F Try.func22 (store_Store_Append_ok (H.p0.f1.f2) e101) rfl rfl fun v w hR a F => ?_)
           obtain ⟨rfl, H⟩ := hR
           refine qw F (r_eq (F.t 121 rfl) (F.ev (x := .const (.int .i64 0)) rfl)) fun a F => ?_
           refine rgend ?_
           replace F := F.only [122, 0, 2, 3, 4, 5, 13, 14, 18, 19, 20] (l' := [(122, .bool (decide (x98 = 0))), (0, .slice A0_ a0.length c0_), (2, .slice A2_ a2.length c2_), (3, .slice A3_ a3.length c3_), (4, .slice A4_ a4.length c4_), (5, .int .i64 a5), (13, .bool x1), (14, .pointer (some ⟨g34, 0, none⟩)), (18, .pointer (some ⟨g69, 0, none⟩)), (19, .slice A80 x79.length c81), (20, .int .i64 x82)]) rfl
           obtain ⟨o_104, k_104, j_89⟩ := Option.bind_eq_some_iff.1 j_89
           refine cut (fun a w => ∃ (x102 : List (List Int)), x102 = o_104 ∧ ∃ (A103 : Option Addr) (c104 : Nat), Fr 199 [] [(0, .slice A0_ a0.length c0_), (2, .slice A2_ a2.length c2_), (3, .slice A3_ a3.length c3_), (4, .slice A4_ a4.length c4_), (5, .int .i64 a5), (13, .bool x1), (14, .pointer (some ⟨g34, 0, none⟩)), (18, .pointer (some ⟨g69, 0, none⟩)), (19, .slice A103 x102.length c104), (20, .int .i64 x82)] a ∧ Hp w0 (rd kByte A0_ c0_ a0 :: rd (kSlice kByte) A2_ c2_ a2 :: rd (kSlice kByte) A3_ c3_ a3 :: rd kBool A4_ c4_ a4 :: ps) (own (kSlice kByte) 29 A103 c104 x102 :: obj_disk_Disk g34 x100 :: obj_store_Store g69 g34 x99 :: fs) w) ?_ ?_
           ·skip
            by_cases c106 : x98 = 0
            ·rw [if_pos c106] at k_104
             rw [decide_eq_true c106] at F
             refine wp_cond_true (F.ev rfl) ?_
             refine wp_region_lit ?_
             refine mv F rfl fun a F => ?_
             refine mv F rfl fun a F => ?_
             refine mv F rfl fun a F => ?_
             obtain ⟨c107, k_104⟩ := guardO k_104
             obtain ⟨g108, o109, s110, hr, H⟩ := H.ix [] 4 rfl (F.t 124 rfl) (F.t 125 rfl) Try.underlying30 sz29 (by decide) c107.1 c107.2
             obtain ⟨A111, c112, rfl, H⟩ := H.says_slice 1 rfl
             refine qw F (hr _ _ _ _ _ _) fun a F => ?_
             refine qw F (r_ld (F.t 126 rfl) (range_cell (j := 0) (H.range 1 rfl) rfl) one29) fun a F => ?_
             refine ls (lbs F H (e := 29) (vs := [(0, .slice A111 ((a2.getD (x82 : Int).toNat [])).length c112)]) (cs := [.slice A111 ((a2.getD (x82 : Int).toNat [])).length c112]) rfl (fun w => by kernel_rfl) fun g113 w a H F => ?_)
             obtain ⟨c114, k_104⟩ := guardO k_104
             obtain ⟨A115, c116, _, hr, H⟩ := Hp.appendCelL (kd := (kSlice kByte)) (xs := x79) (ys := [(a2.getD (x82 : Int).toNat [])]) (H.f2.f2.f2.f3) (F.t 123 rfl) (F.t 128 rfl) Try.underlying30 ti29 rfl (by decide) (by decide) rfl ((SayL.cons (kd := (kSlice kByte)) (c1 := [.slice A111 ((a2.getD (x82 : Int).toNat [])).length c112]) (y := (a2.getD (x82 : Int).toNat [])) (fun Z hp => ⟨A111, c112, rfl, pat hp 0 rfl⟩) SayL.nil)) c114
             refine qw F (hr _ _ _ _ _) fun a F => ?_
             refine as_ F rfl fun a F => ?_
             refine wpList_nil ?_
             replace F := F.only [19, 0, 2, 3, 4, 5, 13, 14, 18, 20] (l' := [(19, .slice A115 ((x79 ++ ([(a2.getD (x82 : Int).toNat [])]))).length c116), (0, .slice A0_ a0.length c0_), (2, .slice A2_ a2.length c2_), (3, .slice A3_ a3.length c3_), (4, .slice A4_ a4.length c4_), (5, .int .i64 a5), (13, .bool x1), (14, .pointer (some ⟨g34, 0, none⟩)), (18, .pointer (some ⟨g69, 0, none⟩)), (20, .int .i64 x82)]) rfl
             try dsimp only at k_104
             obtain rfl := Option.some.inj k_104
             exact ⟨_, rfl, A115, c116, F.only [0, 2, 3, 4, 5, 13, 14, 18, 19, 20] rfl, H.px5.px4.px3.px2.px1.px0.f1.f2.f2⟩
            ·rw [if_neg c106] at k_104
             rw [decide_eq_false c106] at F
             refine wp_cond_false (F.ev rfl) ?_
             refine wp_skip ?_
             try dsimp only at k_104
             obtain rfl := Option.some.inj k_104
             exact ⟨_, rfl, A80, c81, F.only [0, 2, 3, 4, 5, 13, 14, 18, 19, 20] rfl, H.px2.px1.px0.f1.f2⟩
           ·rintro a w ⟨x102, rfl, A103, c104, F, H⟩
            try dsimp only at j_89 F H
            refine wp_region_lit ?_
            refine mv F rfl fun a F => ?_
            refine qw F (r_add (F.t 114 rfl) (F.ev (x := .const (.int .i64 1)) rfl)) fun a F => ?_
            refine as_ F rfl fun a F => ?_
            refine wpList_nil ?_
            try dsimp only at j_89
            obtain rfl := Option.some.inj j_89
            exact ⟨_, rfl, A103, c104, F.only [0, 2, 3, 4, 5, 13, 14, 18, 19, 20] rfl, H⟩
          ·rw [if_neg c91] at j_89
           rw [decide_eq_false c91] at F
           refine wp_cond_false (F.ev rfl) ?_
           refine wp_exit ?_
           try dsimp only at j_89
           obtain rfl := Option.some.inj j_89
           obtain rfl := u_89 _ rfl
           repeat (with_reducible refine exT ?_)
           with_reducible refine exB ?_
           exact ⟨_, _, _, rfl, A80, c81, F.only [0, 3, 4, 5, 13, 14, 18, 19] rfl, H.px1⟩
         ·rintro a w ⟨x85, x88, x89, rfl, A86, c87, F, H⟩
          try dsimp only at h F H
          refine rg ?_
          refine mv F rfl fun a F => ?_
          obtain ⟨⟨x117, x118⟩, e119, h⟩ := Option.bind_eq_some_iff.1 h
          try dsimp only at h
          refine ls (call F Try.func23 (store_Store_Sync_ok (H.f1.f2) e119) rfl rfl fun v w hR a F => ?_)
          obtain ⟨rfl, H⟩ := hR
          refine as_ F rfl fun a F => ?_
          refine rgend ?_
          refine wp_seq ?_
          refine rg ?_
          refine as_ F (v := .int .i64 0) rfl fun a F => ?_
          refine rgend ?_
          obtain ⟨o_124, k_124, h⟩ := Option.bind_eq_some_iff.1 h
          refine cut (fun a w => ∃ (x123 : disk_Disk) (x124 : store_Store), (x123, x124) = o_124 ∧ Fr 199 [] [(0, .slice A0_ a0.length c0_), (3, .slice A3_ a3.length c3_), (4, .slice A4_ a4.length c4_), (5, .int .i64 a5), (13, .bool x1), (14, .pointer (some ⟨g34, 0, none⟩)), (19, .slice A86 x85.length c87), (21, .int .i64 x117)] a ∧ Hp w0 (rd kByte A0_ c0_ a0 :: rd (kSlice kByte) A3_ c3_ a3 :: rd kBool A4_ c4_ a4 :: ps) (own (kSlice kByte) 29 A86 c87 x85 :: obj_disk_Disk g34 x123 :: obj_store_Store g69 g34 x124 :: fs) w) (wp_block ?_) ?_
          ·refine wloop (law18_StoreSynced_b5 a3) (fun (s : Int × disk_Disk × store_Store) a w => Fr 199 [] [(0, .slice A0_ a0.length c0_), (3, .slice A3_ a3.length c3_), (4, .slice A4_ a4.length c4_), (5, .int .i64 a5), (13, .bool x1), (14, .pointer (some ⟨g34, 0, none⟩)), (18, .pointer (some ⟨g69, 0, none⟩)), (19, .slice A86 x85.length c87), (21, .int .i64 x117), (22, .int .i64 s.1)] a ∧ Hp w0 (rd kByte A0_ c0_ a0 :: rd (kSlice kByte) A3_ c3_ a3 :: rd kBool A4_ c4_ a4 :: ps) (own (kSlice kByte) 29 A86 c87 x85 :: obj_disk_Disk g34 s.2.1 :: obj_store_Store g69 g34 s.2.2 :: fs) w) k_124 ⟨F.only [0, 3, 4, 5, 13, 14, 18, 19, 21, 22] rfl, H.f1.f2⟩ ?_
           rintro ⟨x120, x121, x122⟩ a w q_124 j_124 u_124 ⟨F, H⟩
           unfold law18_StoreSynced_b5 at j_124
           try dsimp only at j_124 F H
           refine wp_seq ?_
           refine rg ?_
           refine mv F rfl fun a F => ?_
           refine mv F rfl fun a F => ?_
           refine qw F (r_len (F.t 133 rfl) Try.underlying30) fun a F => ?_
           refine qw F (r_lt (F.t 132 rfl) (F.t 134 rfl)) fun a F => ?_
           refine rgend ?_
           by_cases c126 : x120 < (a3.length : Int)
           ·rw [if_pos c126] at j_124
            rw [decide_eq_true c126] at F
            refine wp_cond_true (F.ev rfl) ?_
            refine wp_skip ?_
            refine wp_seq ?_
            refine wp_block ?_
            refine wp_region_lit ?_
            refine mv F rfl fun a F => ?_
            refine mv F rfl fun a F => ?_
            refine mv F rfl fun a F => ?_
            obtain ⟨c127, j_124⟩ := guardO j_124
            obtain ⟨g128, o129, s130, hr, H⟩ := H.ix [] 1 rfl (F.t 139 rfl) (F.t 140 rfl) Try.underlying30 sz29 (by decide) c127.1 c127.2
            obtain ⟨A131, c132, rfl, H⟩ := H.says_slice 1 rfl
            refine qw F (hr _ _ _ _ _ _) fun a F => ?_
            refine qw F (r_ld (F.t 141 rfl) (range_cell (j := 0) (H.range 1 rfl) rfl) one29) fun a F => ?_
            obtain ⟨⟨x133, x134, x135⟩, e136, j_124⟩ := Option.bind_eq_some_iff.1 j_124
            try dsimp only at j_124
            refine ls (call F Try.func22 (store_Store_Append_ok (H.p0.f1.f2) e136) rfl rfl fun v w hR a F => ?_)
            obtain ⟨rfl, H⟩ := hR
            refine wpList_nil ?_
            replace F := F.only [0, 3, 4, 5, 13, 14, 18, 19, 21, 22] (l' := [(0, .slice A0_ a0.length c0_), (3, .slice A3_ a3.length c3_), (4, .slice A4_ a4.length c4_), (5, .int .i64 a5), (13, .bool x1), (14, .pointer (some ⟨g34, 0, none⟩)), (18, .pointer (some ⟨g69, 0, none⟩)), (19, .slice A86 x85.length c87), (21, .int .i64 x117), (22, .int .i64 x120)]) rfl
            refine wp_region_lit ?_
            refine mv F rfl fun a F => ?_
            refine qw F (r_add (F.t 136 rfl) (F.ev (x := .const (.int .i64 1)) rfl)) fun a F => ?_
            refine as_ F rfl fun a F => ?_
            refine wpList_nil ?_
            try dsimp only at j_124
            obtain rfl := Option.some.inj j_124
            exact ⟨_, rfl, F.only [0, 3, 4, 5, 13, 14, 18, 19, 21, 22] rfl, H.px2.px1.px0.f1.f2⟩
           ·rw [if_neg c126] at j_124
            rw [decide_eq_false c126] at F
            refine wp_cond_false (F.ev rfl) ?_
            refine wp_exit ?_
            try dsimp only at j_124
            obtain rfl := Option.some.inj j_124
            obtain rfl := u_124 _ rfl
            repeat (with_reducible refine exT ?_)
            with_reducible refine exB ?_
            exact ⟨_, _, rfl, F.only [0, 3, 4, 5, 13, 14, 19, 21] rfl, H⟩
          ·rintro a w ⟨x123, x124, rfl, F, H⟩
           try dsimp only at h F H
           refine rg ?_
           refine mv F rfl fun a F => ?_
           refine mv F rfl fun a F => ?_
           refine mv F rfl fun a F => ?_
           obtain ⟨x137, e138, h⟩ := Option.bind_eq_some_iff.1 h
           try dsimp only at h
           refine ls (call F Try.func24 (disk_Disk_Crash_ok (H.p2.f2.f1.f2) e138) rfl rfl fun v w hR a F => ?_)
           obtain ⟨rfl, H⟩ := hR
           refine rgend ?_
           replace F := F.only [0, 3, 13, 14, 19, 21] (l' := [(0, .slice A0_ a0.length c0_), (3, .slice A3_ a3.length c3_), (13, .bool x1), (14, .pointer (some ⟨g34, 0, none⟩)), (19, .slice A86 x85.length c87), (21, .int .i64 x117)]) rfl
           refine rg ?_
           refine mv F rfl fun a F => ?_
           obtain ⟨x139, e140, h⟩ := Option.bind_eq_some_iff.1 h
           try dsimp only at h
           refine ls (call F Try.func13 (store_Open_ok (H) e140) rfl rfl fun v w hR a F => ?_)
           obtain ⟨g141, rfl, H⟩ := hR
           refine as_ F rfl fun a F => ?_
           refine rgend ?_
           refine wp_seq ?_
           refine rg ?_
           refine mv F rfl fun a F => ?_
           refine qw F (r_peq (F.t 150 rfl) (F.ev (x := .const (.pointer none)) rfl) Try.underlying27) fun a F => ?_
           refine rgend ?_
           replace F := F.only [151, 23, 0, 3, 13, 19, 21] (l' := [(151, .bool false), (23, .pointer (some ⟨g141, 0, none⟩)), (0, .slice A0_ a0.length c0_), (3, .slice A3_ a3.length c3_), (13, .bool x1), (19, .slice A86 x85.length c87), (21, .int .i64 x117)]) rfl
           refine wp_cond_false (F.ev rfl) ?_
           refine wp_skip ?_
           refine rg ?_
           refine mv F rfl fun a F => ?_
           obtain ⟨x142, e143, h⟩ := Option.bind_eq_some_iff.1 h
           try dsimp only at h
           refine ls (call F Try.func15 (store_Store_Entries_ok (H) e143) rfl rfl fun v w hR a F => ?_)
           obtain ⟨A144, c145, rfl, H⟩ := hR
           refine as_ F rfl fun a F => ?_
           refine rgend ?_
           refine wp_seq ?_
           obtain ⟨o_146, k_146, h⟩ := Option.bind_eq_some_iff.1 h
           refine cut (fun a w => ∃ (x146 : Bool), x146 = o_146 ∧ Fr 199 [] [(12, .bool x146)] a ∧ Hp w0 ps (obj_store_Store g141 g34 x139 :: obj_store_Store g69 g34 x124 :: obj_disk_Disk g34 x137 :: fs) w) ?_ ?_
           ·skip
            replace H := H.drew
            have HS := H.fx4.fx3.fx2.fx1.fx0
            refine dr (fun w => Hp w0 (rd kByte A0_ c0_ a0 :: rd (kSlice kByte) A3_ c3_ a3 :: rd kBool A4_ c4_ a4 :: ps) fs w) _ (by kernel_rfl) ?_ (n := 46)
            refine dq 0 F rfl (by kernel_rfl) NP HS (fun w S => (r_mv (F.t 13 rfl))) fun a F => ?_
            refine dq 1 F rfl (by kernel_rfl) NP HS (fun w S => (r_mv (F.t 154 rfl))) fun a F => ?_
            by_cases c148 : x1 = true
            ·rw [if_pos c148] at k_146
             rw [c148] at F
             refine dq 2 F rfl (by kernel_rfl) NP HS (fun w S => (r_mv (F.t 21 rfl))) fun a F => ?_
             refine dq 3 F rfl (by kernel_rfl) NP HS (fun w S => (r_eq (F.t 156 rfl) (F.ev (x := .const (.int .i64 0)) rfl))) fun a F => ?_
             refine dq 4 F rfl (by kernel_rfl) NP HS (fun w S => (r_pickT (F.t 155 rfl) (F.t 157 rfl))) fun a F => ?_
             refine dq 5 F rfl (by kernel_rfl) NP HS (fun w S => (r_mv (F.t 158 rfl))) fun a F => ?_
             by_cases c149 : x117 = 0
             ·rw [if_pos c149] at k_146
              rw [decide_eq_true c149] at F
              refine dq 6 F rfl (by kernel_rfl) NP HS (fun w S => (r_mv (F.t 23 rfl))) fun a F => ?_
              obtain ⟨x150, e151, k_146⟩ := Option.bind_eq_some_iff.1 k_146
              try dsimp only at k_146
              refine d1 7 rfl (by kernel_rfl) (call F Try.func16 (store_Store_Has_ok (H.f4.f4.f4.f3.f4) e151) rfl rfl fun v w hR a F => ?_)
              obtain ⟨rfl, H⟩ := hR
              have HS := H.fx4.fx3.fx2.fx1.fx0
              refine kg _ HS (fun w S => S) ?_
              refine dq 8 F rfl (by kernel_rfl) NP HS (fun w S => (r_pickT (F.t 159 rfl) (F.t 161 rfl))) fun a F => ?_
              refine dq 9 F rfl (by kernel_rfl) NP HS (fun w S => (r_mv (F.t 162 rfl))) fun a F => ?_
              by_cases c152 : x150 = true
              ·rw [if_pos c152] at k_146
               rw [c152] at F
               refine dq 10 F rfl (by kernel_rfl) NP HS (fun w S => (r_mv (F.t 23 rfl))) fun a F => ?_
               refine dq 13 F rfl (by kernel_rfl) NP HS (fun w S => (r_mv (F.t 0 rfl))) fun a F => ?_
               have hb153 := H.bytes 0 rfl
               refine dq 14 F rfl (by kernel_rfl) NP HS (fun w S => (S.str 0 rfl (F.t 167 rfl) Try.underlying29 Try.underlying5 Try.underlying9)) fun a F => ?_
               obtain ⟨x154, e155, k_146⟩ := Option.bind_eq_some_iff.1 k_146
               try dsimp only at k_146
               refine d1 11 rfl (by kernel_rfl) (call F Try.func17 (store_Store_State_ok (H) e155) rfl rfl fun v w hR a F => ?_)
               obtain ⟨A156, c157, rfl, H⟩ := hR
               have HS := H.fx5.fx4.fx3.fx2.fx1.fx0
               refine kg _ HS (fun w S => S) ?_
               replace H := (H).freeze
               have hb158 := H.bytes 0 rfl
               have HS := H.fx4.fx3.fx2.fx1.fx0
               refine dmoreH HS (fun w S => S.px0) ?_
               refine dq 12 F rfl (by kernel_rfl) NP HS (fun w S => (S.str 0 rfl (F.t 165 rfl) Try.underlying29 Try.underlying5 Try.underlying9)) fun a F => ?_
               refine dq 15 F rfl (by kernel_rfl) NP HS (fun w S => (r_seq (F.t 166 rfl) (F.t 168 rfl) hb158 hb153)) fun a F => ?_
               refine dq 16 F rfl (by kernel_rfl) NP HS (fun w S => (r_pickT (F.t 163 rfl) (F.t 169 rfl))) fun a F => ?_
               refine dq 17 F rfl (by kernel_rfl) NP HS (fun w S => (r_mv (F.t 170 rfl))) fun a F => ?_
               by_cases c159 : x154 = a0
               ·rw [if_pos c159] at k_146
                rw [decide_eq_true c159] at F
                refine dq 18 F rfl (by kernel_rfl) NP HS (fun w S => (r_mv (F.t 24 rfl))) fun a F => ?_
                refine dq 19 F rfl (by kernel_rfl) NP HS (fun w S => (r_len (F.t 172 rfl) Try.underlying30)) fun a F => ?_
                refine dq 20 F rfl (by kernel_rfl) NP HS (fun w S => (r_mv (F.t 19 rfl))) fun a F => ?_
                refine dq 21 F rfl (by kernel_rfl) NP HS (fun w S => (r_len (F.t 174 rfl) Try.underlying30)) fun a F => ?_
                refine dq 22 F rfl (by kernel_rfl) NP HS (fun w S => (r_ge (F.t 173 rfl) (F.t 175 rfl))) fun a F => ?_
                refine dq 23 F rfl (by kernel_rfl) NP HS (fun w S => (r_pickT (F.t 171 rfl) (F.t 176 rfl))) fun a F => ?_
                refine dq 24 F rfl (by kernel_rfl) NP HS (fun w S => (r_mv (F.t 177 rfl))) fun a F => ?_
                by_cases c160 : (x142.length : Int) ≥ (x85.length : Int)
                ·rw [if_pos c160] at k_146
                 rw [decide_eq_true c160] at F
                 refine dq 25 F rfl (by kernel_rfl) NP HS (fun w S => (r_mv (F.t 24 rfl))) fun a F => ?_
                 refine dq 26 F rfl (by kernel_rfl) NP HS (fun w S => (r_mv (F.t 19 rfl))) fun a F => ?_
                 refine dq 27 F rfl (by kernel_rfl) NP HS (fun w S => (r_len (F.t 180 rfl) Try.underlying30)) fun a F => ?_
                 refine dq 28 F rfl (by kernel_rfl) NP HS (fun w S => (r_mv (F.t 24 rfl))) fun a F => ?_
                 refine dq 29 F rfl (by kernel_rfl) NP HS (fun w S => (r_len (F.t 182 rfl) Try.underlying30)) fun a F => ?_
                 refine dq 30 F rfl (by kernel_rfl) NP HS (fun w S => (r_min (F.t 181 rfl) (F.t 183 rfl))) fun a F => ?_
                 replace H := (H.f4.f4.f4.f3.f4).freeze
                 obtain ⟨c161, k_146⟩ := guardO k_146
                 obtain ⟨A162, c163, hr, H⟩ := Hp.sl (kd := (kSlice kByte)) (jl := (0 : Int)) (jh := min (x85.length : Int) (x142.length : Int)) H 0 rfl (F.t 179 rfl) Try.underlying30 sz29 (.inl ⟨rfl, rfl⟩) (.inr ⟨_, _, rfl, (F.t 184 rfl)⟩) c161
                 have HS := H.fx3.fx2.fx1.fx0
                 refine dmoreH HS (fun w S => S.px1.px0) ?_
                 refine dq 31 F rfl (by kernel_rfl) NP HS (fun w S => (hr _ _ _ _ _ _)) fun a F => ?_
                 refine dq 32 F rfl (by kernel_rfl) NP HS (fun w S => (r_mv (F.t 19 rfl))) fun a F => ?_
                 replace H := (H.f3.f2.f2.f3).freeze
                 obtain ⟨x164, e165, k_146⟩ := Option.bind_eq_some_iff.1 k_146
                 try dsimp only at k_146
                 refine d1 33 rfl (by kernel_rfl) (call F Try.func19 (ref17_SameRows_ok (H.p0.p2) e165) rfl rfl fun v w hR a F => ?_)
                 obtain ⟨rfl, H⟩ := hR
                 have HS := H.fx2.fx1.fx0
                 refine kg _ HS (fun w S => S.px0) ?_
                 refine dq 34 F rfl (by kernel_rfl) NP HS (fun w S => (r_pickT (F.t 178 rfl) (F.t 187 rfl))) fun a F => ?_
                 refine dq 35 F rfl (by kernel_rfl) NP HS (fun w S => (r_mv (F.t 188 rfl))) fun a F => ?_
                 by_cases c166 : x164 = true
                 ·rw [if_pos c166] at k_146
                  rw [c166] at F
                  refine dq 36 F rfl (by kernel_rfl) NP HS (fun w S => (r_mv (F.t 24 rfl))) fun a F => ?_
                  refine dq 37 F rfl (by kernel_rfl) NP HS (fun w S => (r_len (F.t 190 rfl) Try.underlying30)) fun a F => ?_
                  refine dq 38 F rfl (by kernel_rfl) NP HS (fun w S => (r_mv (F.t 19 rfl))) fun a F => ?_
                  refine dq 39 F rfl (by kernel_rfl) NP HS (fun w S => (r_len (F.t 192 rfl) Try.underlying30)) fun a F => ?_
                  refine dq 40 F rfl (by kernel_rfl) NP HS (fun w S => (r_mv (F.t 3 rfl))) fun a F => ?_
                  refine dq 41 F rfl (by kernel_rfl) NP HS (fun w S => (r_len (F.t 194 rfl) Try.underlying30)) fun a F => ?_
                  refine dq 42 F rfl (by kernel_rfl) NP HS (fun w S => (r_add (F.t 193 rfl) (F.t 195 rfl))) fun a F => ?_
                  refine dq 43 F rfl (by kernel_rfl) NP HS (fun w S => (r_le (F.t 191 rfl) (F.t 196 rfl))) fun a F => ?_
                  refine dq 44 F rfl (by kernel_rfl) NP HS (fun w S => (r_pickT (F.t 189 rfl) (F.t 197 rfl))) fun a F => ?_
                  refine dq 45 F rfl (by kernel_rfl) NP HS (fun w S => (r_as (F.t 198 rfl))) fun a F => ?_
                  refine ddone (by kernel_rfl) ?_
                  replace F := F.only [12] (l' := [(12, .bool (decide ((x142.length : Int) ≤ (IntKind.i64.wrap ((x85.length : Int) + (a3.length : Int))))))]) rfl
                  try dsimp only at k_146
                  obtain rfl := Option.some.inj k_146
                  exact ⟨_, rfl, F.only [12] rfl, H.px6.px5.px4.px3.px2.px1.px0.f1.f2.f2⟩
                 ·rw [if_neg c166] at k_146
                  rw [Bool.eq_false_iff.2 c166] at F
                  refine doff 36 F rfl (by kernel_rfl) NP HS fun a F => ?_
                  refine doff 37 F rfl (by kernel_rfl) NP HS fun a F => ?_
                  refine doff 38 F rfl (by kernel_rfl) NP HS fun a F => ?_
                  refine doff 39 F rfl (by kernel_rfl) NP HS fun a F => ?_
                  refine doff 40 F rfl (by kernel_rfl) NP HS fun a F => ?_
                  refine doff 41 F rfl (by kernel_rfl) NP HS fun a F => ?_
                  refine doff 42 F rfl (by kernel_rfl) NP HS fun a F => ?_
                  refine doff 43 F rfl (by kernel_rfl) NP HS fun a F => ?_
                  refine dq 44 F rfl (by kernel_rfl) NP HS (fun w S => (r_pickF (F.t 189 rfl) (F.ev (x := .const (.bool false)) rfl))) fun a F => ?_
                  refine dq 45 F rfl (by kernel_rfl) NP HS (fun w S => (r_as (F.t 198 rfl))) fun a F => ?_
                  refine ddone (by kernel_rfl) ?_
                  replace F := F.only [12] (l' := [(12, .bool false)]) rfl
                  try dsimp only at k_146
                  obtain rfl := Option.some.inj k_146
                  exact ⟨_, rfl, F.only [12] rfl, H.px6.px5.px4.px3.px2.px1.px0.f1.f2.f2⟩
                ·rw [if_neg c160] at k_146
                 rw [decide_eq_false c160] at F
                 refine doff 25 F rfl (by kernel_rfl) NP HS fun a F => ?_
                 refine doff 26 F rfl (by kernel_rfl) NP HS fun a F => ?_
                 refine doff 27 F rfl (by kernel_rfl) NP HS fun a F => ?_
                 refine doff 28 F rfl (by kernel_rfl) NP HS fun a F => ?_
                 refine doff 29 F rfl (by kernel_rfl) NP HS fun a F => ?_
                 refine doff 30 F rfl (by kernel_rfl) NP HS fun a F => ?_
                 refine doff 31 F rfl (by kernel_rfl) NP HS fun a F => ?_
                 refine doff 32 F rfl (by kernel_rfl) NP HS fun a F => ?_
                 refine doff 33 F rfl (by kernel_rfl) NP HS fun a F => ?_
                 refine dq 34 F rfl (by kernel_rfl) NP HS (fun w S => (r_pickF (F.t 178 rfl) (F.ev (x := .const (.bool false)) rfl))) fun a F => ?_
                 refine dq 35 F rfl (by kernel_rfl) NP HS (fun w S => (r_mv (F.t 188 rfl))) fun a F => ?_
                 refine doff 36 F rfl (by kernel_rfl) NP HS fun a F => ?_
                 refine doff 37 F rfl (by kernel_rfl) NP HS fun a F => ?_
                 refine doff 38 F rfl (by kernel_rfl) NP HS fun a F => ?_
                 refine doff 39 F rfl (by kernel_rfl) NP HS fun a F => ?_
                 refine doff 40 F rfl (by kernel_rfl) NP HS fun a F => ?_
                 refine doff 41 F rfl (by kernel_rfl) NP HS fun a F => ?_
                 refine doff 42 F rfl (by kernel_rfl) NP HS fun a F => ?_
                 refine doff 43 F rfl (by kernel_rfl) NP HS fun a F => ?_
                 refine dq 44 F rfl (by kernel_rfl) NP HS (fun w S => (r_pickF (F.t 189 rfl) (F.ev (x := .const (.bool false)) rfl))) fun a F => ?_
                 refine dq 45 F rfl (by kernel_rfl) NP HS (fun w S => (r_as (F.t 198 rfl))) fun a F => ?_
                 refine ddone (by kernel_rfl) ?_
                 replace F := F.only [12] (l' := [(12, .bool false)]) rfl
                 try dsimp only at k_146
                 obtain rfl := Option.some.inj k_146
                 exact ⟨_, rfl, F.only [12] rfl, H.px3.px2.px1.px0.f2.f4.f2.fx4.fx3⟩
               ·rw [if_neg c159] at k_146
                rw [decide_eq_false c159] at F
                refine doff 18 F rfl (by kernel_rfl) NP HS fun a F => ?_
                refine doff 19 F rfl (by kernel_rfl) NP HS fun a F => ?_
                refine doff 20 F rfl (by kernel_rfl) NP HS fun a F => ?_
                refine doff 21 F rfl (by kernel_rfl) NP HS fun a F => ?_
                refine doff 22 F rfl (by kernel_rfl) NP HS fun a F => ?_
                refine dq 23 F rfl (by kernel_rfl) NP HS (fun w S => (r_pickF (F.t 171 rfl) (F.ev (x := .const (.bool false)) rfl))) fun a F => ?_
                refine dq 24 F rfl (by kernel_rfl) NP HS (fun w S => (r_mv (F.t 177 rfl))) fun a F => ?_
                refine doff 25 F rfl (by kernel_rfl) NP HS fun a F => ?_
                refine doff 26 F rfl (by kernel_rfl) NP HS fun a F => ?_
                refine doff 27 F rfl (by kernel_rfl) NP HS fun a F => ?_
                refine doff 28 F rfl (by kernel_rfl) NP HS fun a F => ?_
                refine doff 29 F rfl (by kernel_rfl) NP HS fun a F => ?_
                refine doff 30 F rfl (by kernel_rfl) NP HS fun a F => ?_
                refine doff 31 F rfl (by kernel_rfl) NP HS fun a F => ?_
                refine doff 32 F rfl (by kernel_rfl) NP HS fun a F => ?_
                refine doff 33 F rfl (by kernel_rfl) NP HS fun a F => ?_
                refine dq 34 F rfl (by kernel_rfl) NP HS (fun w S => (r_pickF (F.t 178 rfl) (F.ev (x := .const (.bool false)) rfl))) fun a F => ?_
                refine dq 35 F rfl (by kernel_rfl) NP HS (fun w S => (r_mv (F.t 188 rfl))) fun a F => ?_
                refine doff 36 F rfl (by kernel_rfl) NP HS fun a F => ?_
                refine doff 37 F rfl (by kernel_rfl) NP HS fun a F => ?_
                refine doff 38 F rfl (by kernel_rfl) NP HS fun a F => ?_
                refine doff 39 F rfl (by kernel_rfl) NP HS fun a F => ?_
                refine doff 40 F rfl (by kernel_rfl) NP HS fun a F => ?_
                refine doff 41 F rfl (by kernel_rfl) NP HS fun a F => ?_
                refine doff 42 F rfl (by kernel_rfl) NP HS fun a F => ?_
                refine doff 43 F rfl (by kernel_rfl) NP HS fun a F => ?_
                refine dq 44 F rfl (by kernel_rfl) NP HS (fun w S => (r_pickF (F.t 189 rfl) (F.ev (x := .const (.bool false)) rfl))) fun a F => ?_
                refine dq 45 F rfl (by kernel_rfl) NP HS (fun w S => (r_as (F.t 198 rfl))) fun a F => ?_
                refine ddone (by kernel_rfl) ?_
                replace F := F.only [12] (l' := [(12, .bool false)]) rfl
                try dsimp only at k_146
                obtain rfl := Option.some.inj k_146
                exact ⟨_, rfl, F.only [12] rfl, H.px3.px2.px1.px0.f2.f4.f2.fx4.fx3⟩
              ·rw [if_neg c152] at k_146
               rw [Bool.eq_false_iff.2 c152] at F
               refine doff 10 F rfl (by kernel_rfl) NP HS fun a F => ?_
               refine doff 11 F rfl (by kernel_rfl) NP HS fun a F => ?_
               refine doff 12 F rfl (by kernel_rfl) NP HS fun a F => ?_
               refine doff 13 F rfl (by kernel_rfl) NP HS fun a F => ?_
               refine doff 14 F rfl (by kernel_rfl) NP HS fun a F => ?_
               refine doff 15 F rfl (by kernel_rfl) NP HS fun a F => ?_
               refine dq 16 F rfl (by kernel_rfl) NP HS (fun w S => (r_pickF (F.t 163 rfl) (F.ev (x := .const (.bool false)) rfl))) fun a F => ?_
               refine dq 17 F rfl (by kernel_rfl) NP HS (fun w S => (r_mv (F.t 170 rfl))) fun a F => ?_
               refine doff 18 F rfl (by kernel_rfl) NP HS fun a F => ?_
               refine doff 19 F rfl (by kernel_rfl) NP HS fun a F => ?_
               refine doff 20 F rfl (by kernel_rfl) NP HS fun a F => ?_
               refine doff 21 F rfl (by kernel_rfl) NP HS fun a F => ?_
               refine doff 22 F rfl (by kernel_rfl) NP HS fun a F => ?_
               refine dq 23 F rfl (by kernel_rfl) NP HS (fun w S => (r_pickF (F.t 171 rfl) (F.ev (x := .const (.bool false)) rfl))) fun a F => ?_
               refine dq 24 F rfl (by kernel_rfl) NP HS (fun w S => (r_mv (F.t 177 rfl))) fun a F => ?_
               refine doff 25 F rfl (by kernel_rfl) NP HS fun a F => ?_
               refine doff 26 F rfl (by kernel_rfl) NP HS fun a F => ?_
               refine doff 27 F rfl (by kernel_rfl) NP HS fun a F => ?_
               refine doff 28 F rfl (by kernel_rfl) NP HS fun a F => ?_
               refine doff 29 F rfl (by kernel_rfl) NP HS fun a F => ?_
               refine doff 30 F rfl (by kernel_rfl) NP HS fun a F => ?_
               refine doff 31 F rfl (by kernel_rfl) NP HS fun a F => ?_
               refine doff 32 F rfl (by kernel_rfl) NP HS fun a F => ?_
               refine doff 33 F rfl (by kernel_rfl) NP HS fun a F => ?_
               refine dq 34 F rfl (by kernel_rfl) NP HS (fun w S => (r_pickF (F.t 178 rfl) (F.ev (x := .const (.bool false)) rfl))) fun a F => ?_
               refine dq 35 F rfl (by kernel_rfl) NP HS (fun w S => (r_mv (F.t 188 rfl))) fun a F => ?_
               refine doff 36 F rfl (by kernel_rfl) NP HS fun a F => ?_
               refine doff 37 F rfl (by kernel_rfl) NP HS fun a F => ?_
               refine doff 38 F rfl (by kernel_rfl) NP HS fun a F => ?_
               refine doff 39 F rfl (by kernel_rfl) NP HS fun a F => ?_
               refine doff 40 F rfl (by kernel_rfl) NP HS fun a F => ?_
               refine doff 41 F rfl (by kernel_rfl) NP HS fun a F => ?_
               refine doff 42 F rfl (by kernel_rfl) NP HS fun a F => ?_
               refine doff 43 F rfl (by kernel_rfl) NP HS fun a F => ?_
               refine dq 44 F rfl (by kernel_rfl) NP HS (fun w S => (r_pickF (F.t 189 rfl) (F.ev (x := .const (.bool false)) rfl))) fun a F => ?_
               refine dq 45 F rfl (by kernel_rfl) NP HS (fun w S => (r_as (F.t 198 rfl))) fun a F => ?_
               refine ddone (by kernel_rfl) ?_
               replace F := F.only [12] (l' := [(12, .bool false)]) rfl
               try dsimp only at k_146
               obtain rfl := Option.some.inj k_146
               exact ⟨_, rfl, F.only [12] rfl, H.px2.px1.px0.f2.f4.f2.fx4.fx3⟩
             ·rw [if_neg c149] at k_146
              rw [decide_eq_false c149] at F
              refine doff 6 F rfl (by kernel_rfl) NP HS fun a F => ?_
              refine doff 7 F rfl (by kernel_rfl) NP HS fun a F => ?_
              refine dq 8 F rfl (by kernel_rfl) NP HS (fun w S => (r_pickF (F.t 159 rfl) (F.ev (x := .const (.bool false)) rfl))) fun a F => ?_
              refine dq 9 F rfl (by kernel_rfl) NP HS (fun w S => (r_mv (F.t 162 rfl))) fun a F => ?_
              refine doff 10 F rfl (by kernel_rfl) NP HS fun a F => ?_
              refine doff 11 F rfl (by kernel_rfl) NP HS fun a F => ?_
              refine doff 12 F rfl (by kernel_rfl) NP HS fun a F => ?_
              refine doff 13 F rfl (by kernel_rfl) NP HS fun a F => ?_
              refine doff 14 F rfl (by kernel_rfl) NP HS fun a F => ?_
              refine doff 15 F rfl (by kernel_rfl) NP HS fun a F => ?_
              refine dq 16 F rfl (by kernel_rfl) NP HS (fun w S => (r_pickF (F.t 163 rfl) (F.ev (x := .const (.bool false)) rfl))) fun a F => ?_
              refine dq 17 F rfl (by kernel_rfl) NP HS (fun w S => (r_mv (F.t 170 rfl))) fun a F => ?_
              refine doff 18 F rfl (by kernel_rfl) NP HS fun a F => ?_
              refine doff 19 F rfl (by kernel_rfl) NP HS fun a F => ?_
              refine doff 20 F rfl (by kernel_rfl) NP HS fun a F => ?_
              refine doff 21 F rfl (by kernel_rfl) NP HS fun a F => ?_
              refine doff 22 F rfl (by kernel_rfl) NP HS fun a F => ?_
              refine dq 23 F rfl (by kernel_rfl) NP HS (fun w S => (r_pickF (F.t 171 rfl) (F.ev (x := .const (.bool false)) rfl))) fun a F => ?_
              refine dq 24 F rfl (by kernel_rfl) NP HS (fun w S => (r_mv (F.t 177 rfl))) fun a F => ?_
              refine doff 25 F rfl (by kernel_rfl) NP HS fun a F => ?_
              refine doff 26 F rfl (by kernel_rfl) NP HS fun a F => ?_
              refine doff 27 F rfl (by kernel_rfl) NP HS fun a F => ?_
              refine doff 28 F rfl (by kernel_rfl) NP HS fun a F => ?_
              refine doff 29 F rfl (by kernel_rfl) NP HS fun a F => ?_
              refine doff 30 F rfl (by kernel_rfl) NP HS fun a F => ?_
              refine doff 31 F rfl (by kernel_rfl) NP HS fun a F => ?_
              refine doff 32 F rfl (by kernel_rfl) NP HS fun a F => ?_
              refine doff 33 F rfl (by kernel_rfl) NP HS fun a F => ?_
              refine dq 34 F rfl (by kernel_rfl) NP HS (fun w S => (r_pickF (F.t 178 rfl) (F.ev (x := .const (.bool false)) rfl))) fun a F => ?_
              refine dq 35 F rfl (by kernel_rfl) NP HS (fun w S => (r_mv (F.t 188 rfl))) fun a F => ?_
              refine doff 36 F rfl (by kernel_rfl) NP HS fun a F => ?_
              refine doff 37 F rfl (by kernel_rfl) NP HS fun a F => ?_
              refine doff 38 F rfl (by kernel_rfl) NP HS fun a F => ?_
              refine doff 39 F rfl (by kernel_rfl) NP HS fun a F => ?_
              refine doff 40 F rfl (by kernel_rfl) NP HS fun a F => ?_
              refine doff 41 F rfl (by kernel_rfl) NP HS fun a F => ?_
              refine doff 42 F rfl (by kernel_rfl) NP HS fun a F => ?_
              refine doff 43 F rfl (by kernel_rfl) NP HS fun a F => ?_
              refine dq 44 F rfl (by kernel_rfl) NP HS (fun w S => (r_pickF (F.t 189 rfl) (F.ev (x := .const (.bool false)) rfl))) fun a F => ?_
              refine dq 45 F rfl (by kernel_rfl) NP HS (fun w S => (r_as (F.t 198 rfl))) fun a F => ?_
              refine ddone (by kernel_rfl) ?_
              replace F := F.only [12] (l' := [(12, .bool false)]) rfl
              try dsimp only at k_146
              obtain rfl := Option.some.inj k_146
              exact ⟨_, rfl, F.only [12] rfl, H.px2.px1.px0.f2.f4.f3.fx4.fx3⟩
            ·rw [if_neg c148] at k_146
             rw [Bool.eq_false_iff.2 c148] at F
             refine doff 2 F rfl (by kernel_rfl) NP HS fun a F => ?_
             refine doff 3 F rfl (by kernel_rfl) NP HS fun a F => ?_
             refine dq 4 F rfl (by kernel_rfl) NP HS (fun w S => (r_pickF (F.t 155 rfl) (F.ev (x := .const (.bool false)) rfl))) fun a F => ?_
             refine dq 5 F rfl (by kernel_rfl) NP HS (fun w S => (r_mv (F.t 158 rfl))) fun a F => ?_
             refine doff 6 F rfl (by kernel_rfl) NP HS fun a F => ?_
             refine doff 7 F rfl (by kernel_rfl) NP HS fun a F => ?_
             refine dq 8 F rfl (by kernel_rfl) NP HS (fun w S => (r_pickF (F.t 159 rfl) (F.ev (x := .const (.bool false)) rfl))) fun a F => ?_
             refine dq 9 F rfl (by kernel_rfl) NP HS (fun w S => (r_mv (F.t 162 rfl))) fun a F => ?_
             refine doff 10 F rfl (by kernel_rfl) NP HS fun a F => ?_
             refine doff 11 F rfl (by kernel_rfl) NP HS fun a F => ?_
             refine doff 12 F rfl (by kernel_rfl) NP HS fun a F => ?_
             refine doff 13 F rfl (by kernel_rfl) NP HS fun a F => ?_
             refine doff 14 F rfl (by kernel_rfl) NP HS fun a F => ?_
             refine doff 15 F rfl (by kernel_rfl) NP HS fun a F => ?_
             refine dq 16 F rfl (by kernel_rfl) NP HS (fun w S => (r_pickF (F.t 163 rfl) (F.ev (x := .const (.bool false)) rfl))) fun a F => ?_
             refine dq 17 F rfl (by kernel_rfl) NP HS (fun w S => (r_mv (F.t 170 rfl))) fun a F => ?_
             refine doff 18 F rfl (by kernel_rfl) NP HS fun a F => ?_
             refine doff 19 F rfl (by kernel_rfl) NP HS fun a F => ?_
             refine doff 20 F rfl (by kernel_rfl) NP HS fun a F => ?_
             refine doff 21 F rfl (by kernel_rfl) NP HS fun a F => ?_
             refine doff 22 F rfl (by kernel_rfl) NP HS fun a F => ?_
             refine dq 23 F rfl (by kernel_rfl) NP HS (fun w S => (r_pickF (F.t 171 rfl) (F.ev (x := .const (.bool false)) rfl))) fun a F => ?_
             refine dq 24 F rfl (by kernel_rfl) NP HS (fun w S => (r_mv (F.t 177 rfl))) fun a F => ?_
             refine doff 25 F rfl (by kernel_rfl) NP HS fun a F => ?_
             refine doff 26 F rfl (by kernel_rfl) NP HS fun a F => ?_
             refine doff 27 F rfl (by kernel_rfl) NP HS fun a F => ?_
             refine doff 28 F rfl (by kernel_rfl) NP HS fun a F => ?_
             refine doff 29 F rfl (by kernel_rfl) NP HS fun a F => ?_
             refine doff 30 F rfl (by kernel_rfl) NP HS fun a F => ?_
             refine doff 31 F rfl (by kernel_rfl) NP HS fun a F => ?_
             refine doff 32 F rfl (by kernel_rfl) NP HS fun a F => ?_
             refine doff 33 F rfl (by kernel_rfl) NP HS fun a F => ?_
             refine dq 34 F rfl (by kernel_rfl) NP HS (fun w S => (r_pickF (F.t 178 rfl) (F.ev (x := .const (.bool false)) rfl))) fun a F => ?_
             refine dq 35 F rfl (by kernel_rfl) NP HS (fun w S => (r_mv (F.t 188 rfl))) fun a F => ?_
             refine doff 36 F rfl (by kernel_rfl) NP HS fun a F => ?_
             refine doff 37 F rfl (by kernel_rfl) NP HS fun a F => ?_
             refine doff 38 F rfl (by kernel_rfl) NP HS fun a F => ?_
             refine doff 39 F rfl (by kernel_rfl) NP HS fun a F => ?_
             refine doff 40 F rfl (by kernel_rfl) NP HS fun a F => ?_
             refine doff 41 F rfl (by kernel_rfl) NP HS fun a F => ?_
             refine doff 42 F rfl (by kernel_rfl) NP HS fun a F => ?_
             refine doff 43 F rfl (by kernel_rfl) NP HS fun a F => ?_
             refine dq 44 F rfl (by kernel_rfl) NP HS (fun w S => (r_pickF (F.t 189 rfl) (F.ev (x := .const (.bool false)) rfl))) fun a F => ?_
             refine dq 45 F rfl (by kernel_rfl) NP HS (fun w S => (r_as (F.t 198 rfl))) fun a F => ?_
             refine ddone (by kernel_rfl) ?_
             replace F := F.only [12] (l' := [(12, .bool false)]) rfl
             try dsimp only at k_146
             obtain rfl := Option.some.inj k_146
             exact ⟨_, rfl, F.only [12] rfl, H.px2.px1.px0.f2.f4.f3.fx4.fx3⟩
           ·rintro a w ⟨x146, rfl, F, H⟩
            try dsimp only at h F H
            refine wp_ret ?_
            try dsimp only at h
            obtain rfl := Option.some.inj h
            exact RET _ _ (ret1 F rfl rfl ⟨_, rfl, rfl, H.fx2.fx1.fx0⟩)
end Go.Proofs.Ytpmkpiffbdcflaa
