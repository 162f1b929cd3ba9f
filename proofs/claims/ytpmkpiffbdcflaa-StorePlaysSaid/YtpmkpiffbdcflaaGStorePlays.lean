/- What the functions compute. Printed by wip/gen. -/
import Derived.Test.YtpmkpiffbdcflaaGRL
set_option linter.unusedVariables false
set_option linter.unusedSimpArgs false
set_option maxHeartbeats 4000000
set_option maxRecDepth 20000
namespace Go.Proofs.Ytpmkpiffbdcflaa
open Go Go.RowKit
def law18_StorePlays_b2 (a2 : List law18_Op) : (store_Store × ref18_Store × Int × ref15_Disk × disk_Disk) → Option (store_Store × ref18_Store × Int × ref15_Disk × disk_Disk ⊕ ((ref15_Disk × disk_Disk) ⊕ Bool))
 | (x83, x85, x86, x87, x88) => (if x86 < (a2.length : Int) then (if 0 ≤ x86 ∧ x86 < (a2.length : Int) then ((law18_do_f x88 x83 ((a2.getD (x86 : Int).toNat (⟨0, [], [], [], 0, []⟩ : law18_Op)))).bind fun (x105, x106, x107) => (if 0 ≤ x86 ∧ x86 < (a2.length : Int) then ((law18_plain_f x87 x85 ((a2.getD (x86 : Int).toNat (⟨0, [], [], [], 0, []⟩ : law18_Op)))).bind fun (x122, x123, x124) => (if x106 ≠ x123 then some (.inr (.inr false)) else ((law18_alike_f x107 x105 x124 x122).bind fun x128 => (if x128 = true then some (.inl (x105, x122, IntKind.i64.wrap (x86 + 1), x124, x107)) else some (.inr (.inr false)))))) else none)) else none) else some (.inr (.inl (x87, x88))))
def law18_StorePlays_b1 (a1 : List api_Sector) : (Int × ref15_Disk × disk_Disk) → Option (Int × ref15_Disk × disk_Disk ⊕ ref15_Disk × disk_Disk)
 | (x34, x35, x36) => (if x34 < (a1.length : Int) then (if 0 ≤ x34 ∧ x34 < (a1.length : Int) then ((ref16_Put_f ((a1.getD (x34 : Int).toNat (⟨0, 0, 0, 0, []⟩ : api_Sector)))).bind fun x47 => ((disk_Disk_Write_f x36 x34 x47).bind fun (x51, x52) => (if 0 ≤ x34 ∧ x34 < (a1.length : Int) then ((ref16_Put_f ((a1.getD (x34 : Int).toNat (⟨0, 0, 0, 0, []⟩ : api_Sector)))).bind fun x60 => ((ref15_Disk_Write_f x35 x34 x60).bind fun (x64, x65) => some (.inl (IntKind.i64.wrap (x34 + 1), x65, x52)))) else none))) else none) else some (.inr (x35, x36)))
def law18_StorePlays_b0 (a1 : List api_Sector) : (Int × Int) → Option (Int × Int ⊕ Int)
 | (x3, x4) => (((if x4 < (a1.length : Int) then some ((decide (x3 < 9000))) else some false) : Option (Bool)).bind fun x7 => (if x7 = true then (if 0 ≤ x4 ∧ x4 < (a1.length : Int) then some (.inl (IntKind.i64.wrap (x3 + (min (((a1.getD (x4 : Int).toNat (⟨0, 0, 0, 0, []⟩ : api_Sector)).Body).length : Int) 9000)), IntKind.i64.wrap (x4 + 1))) else none) else some (.inr x3)))
def law18_StorePlays_f (a0 : Int) (a1 : List api_Sector) (a2 : List law18_Op) : Option (Bool) :=
 ((law18_head_f).bind fun x1 => ((lp (law18_StorePlays_b0 a1) ((a1.length : Int), 0)).bind fun x5 => ((law18_Great_f a2).bind fun x17 => (if x17 = true then some x1 else (if x5 ≥ 9000 then some x1 else (if (a1.length : Int) > 60 then some x1 else ((disk_New_f (IntKind.i64.wrap (a0.tmod 60))).bind fun x22 => match x22 with | none => ((ref15_New_f (IntKind.i64.wrap (a0.tmod 60))).bind fun x25 => match x25 with | none => some false | some x27 => some false) | some x24 => ((ref15_New_f (IntKind.i64.wrap (a0.tmod 60))).bind fun x30 => match x30 with | none => some false | some x32 => ((lp (law18_StorePlays_b1 a1) (0, x32, x24)).bind fun (x37, x38) => ((disk_Disk_Sync_f x38).bind fun (x67, x68) => ((ref15_Disk_Sync_f x37).bind fun (x70, x71) => ((store_Open_f x68).bind fun x73 => ((ref18_Open_f x71).bind fun x76 => ((law18_alike_f x68 x73 x71 x76).bind fun x79 => (if x79 = true then ((lp (law18_StorePlays_b2 a2) (x73, x76, 0, x71, x68)).bind fun q => match q with | .inl (x89, x90) => some x1 | .inr r => some r) else some false)))))))))))))))
theorem law18_StorePlays_ok {w0 w : World} {ps : List PF} {fs : List SF} {a0 : Int} {a1 : List api_Sector} {A1_ : Option Addr} {c1_ : Nat} {a2 : List law18_Op} {A2_ : Option Addr} {c2_ : Nat} {r0 : Bool} (H : Hp w0 (rd k_api_Sector A1_ c1_ a1 :: rd k_law18_Op A2_ c2_ a2 :: ps) fs w) (h : law18_StorePlays_f a0 a1 a2 = some r0) (ha0 : 0 ≤ a0 ∧ a0 < 256) :
  Calls Try.prog 8 [.int .u8 a0, .slice A1_ a1.length c1_, .slice A2_ a2.length c2_].toArray w fun e w' => ∃ v, e = .returned v ∧ v = .bool r0 ∧ Hp w0 ps fs w' := by
 refine enter [.int .u8 a0, .slice A1_ a1.length c1_, .slice A2_ a2.length c2_] 152 Try.func8 fun Q a NP RET NRM F => ?_
 replace NP := np NP
 unfold law18_StorePlays_f at h
 refine rg ?_
 refine as_ F (v := .bool false) rfl fun a F => ?_
 refine rgend ?_
 refine rg ?_
 obtain ⟨x1, e2, h⟩ := Option.bind_eq_some_iff.1 h
 try dsimp only at h
 refine ls (call F Try.func10 (law18_head_ok (H) e2) rfl rfl fun v w hR a F => ?_)
 obtain ⟨rfl, H⟩ := hR
 refine as_ F rfl fun a F => ?_
 refine rgend ?_
 refine rg ?_
 refine mv F rfl fun a F => ?_
 refine qw F (r_len (F.t 21 rfl) Try.underlying51) fun a F => ?_
 refine as_ F rfl fun a F => ?_
 refine rgend ?_
 replace F := F.only [8, 7, 0, 1, 2] (l' := [(8, _), (7, _), (0, _), (1, _), (2, _)]) rfl
 refine wp_seq ?_
 refine rg ?_
 refine as_ F (v := .int .i64 0) rfl fun a F => ?_
 refine rgend ?_
 obtain ⟨o_5, k_5, h⟩ := Option.bind_eq_some_iff.1 h
 refine cut (fun a w => ∃ (x5 : Int), x5 = o_5 ∧ Fr 152 [] [(0, .int .u8 a0), (1, .slice A1_ a1.length c1_), (2, .slice A2_ a2.length c2_), (7, .bool x1), (8, .int .i64 x5)] a ∧ Hp w0 (rd k_api_Sector A1_ c1_ a1 :: rd k_law18_Op A2_ c2_ a2 :: ps) fs w) (wp_block ?_) ?_
 ·refine wloop (law18_StorePlays_b0 a1) (fun (s : Int × Int) a w => Fr 152 [] [(0, .int .u8 a0), (1, .slice A1_ a1.length c1_), (2, .slice A2_ a2.length c2_), (7, .bool x1), (8, .int .i64 s.1), (9, .int .i64 s.2)] a ∧ Hp w0 (rd k_api_Sector A1_ c1_ a1 :: rd k_law18_Op A2_ c2_ a2 :: ps) fs w) k_5 ⟨F.only [0, 1, 2, 7, 8, 9] rfl, H⟩ ?_
  rintro ⟨x3, x4⟩ a w q_5 j_5 u_5 ⟨F, H⟩
  unfold law18_StorePlays_b0 at j_5
  try dsimp only at j_5 F H
  iterate 2 refine wp_seq ?_
  obtain ⟨o_7, k_7, j_5⟩ := Option.bind_eq_some_iff.1 j_5
  refine cut (fun a w => ∃ (x7 : Bool), x7 = o_7 ∧ Fr 152 [] [(0, .int .u8 a0), (1, .slice A1_ a1.length c1_), (2, .slice A2_ a2.length c2_), (7, .bool x1), (8, .int .i64 x3), (9, .int .i64 x4), (30, .bool x7)] a ∧ Hp w0 (rd k_api_Sector A1_ c1_ a1 :: rd k_law18_Op A2_ c2_ a2 :: ps) fs w) ?_ ?_
  ·skip
   refine wp_region_lit ?_
   iterate 2 refine mv F rfl fun a F => ?_
   refine qw F (r_len (F.t 24 rfl) Try.underlying51) fun a F => ?_
   refine qw F (r_lt (F.t 23 rfl) (F.t 25 rfl)) fun a F => ?_
   refine mv F rfl fun a F => ?_
   by_cases c9 : x4 < (a1.length : Int)
   ·rw [if_pos c9] at k_7
    rw [decide_eq_true c9] at F
    refine mv F rfl fun a F => ?_
    refine qw F (r_lt (F.t 28 rfl) (F.k (.int .i64 9000))) fun a F => ?_
    refine qw F (r_pickT (F.t 27 rfl) (F.t 29 rfl)) fun a F => ?_
    refine wpList_nil ?_
    replace F := F.only [30, 0, 1, 2, 7, 8, 9] (l' := [(30, _), (0, _), (1, _), (2, _), (7, _), (8, _), (9, _)]) rfl
    try dsimp only at k_7
    obtain rfl := Option.some.inj k_7
    exact ⟨_, rfl, F.only [0, 1, 2, 7, 8, 9, 30] rfl, H⟩
   rw [if_neg c9] at k_7
   rw [decide_eq_false c9] at F
   iterate 2 refine of_ F fun a F => ?_
   refine qw F (r_pickF (F.t 27 rfl) (F.k (.bool false))) fun a F => ?_
   refine wpList_nil ?_
   replace F := F.only [30, 0, 1, 2, 7, 8, 9] (l' := [(30, _), (0, _), (1, _), (2, _), (7, _), (8, _), (9, _)]) rfl
   try dsimp only at k_7
   obtain rfl := Option.some.inj k_7
   exact ⟨_, rfl, F.only [0, 1, 2, 7, 8, 9, 30] rfl, H⟩
  rintro a w ⟨x7, rfl, F, H⟩
  try dsimp only at j_5 F H
  by_cases c10 : x7 = true
  ·rw [if_pos c10] at j_5
   rw [c10] at F
   refine wp_cond_true (F.ev rfl) ?_
   refine wp_skip ?_
   refine wp_seq ?_
   refine wp_block ?_
   refine wp_region_lit ?_
   iterate 3 refine mv F rfl fun a F => ?_
   obtain ⟨c11, j_5⟩ := guardO j_5
   obtain ⟨g12, o13, s14, hr, H⟩ := H.ix (⟨0, 0, 0, 0, []⟩ : api_Sector) 0 rfl (F.t 34 rfl) (F.t 35 rfl) Try.underlying51 sz53 (by decide) c11.1 c11.2
   obtain ⟨A15, c16, rfl, H⟩ := H.open_api_Sector 1 rfl
   refine qw F (hr _ _ _ _ _ _) fun a F => ?_
   refine qw F (r_fa (off := 4) (F.t 36 rfl) fa53_4) fun a F => ?_
   refine qw F (r_ld (F.t 37 rfl) (range_cell (j := 4) (H.range 1 rfl) rfl) one29) fun a F => ?_
   refine qw F (r_len (F.t 38 rfl) Try.underlying29) fun a F => ?_
   refine qw F (r_min (F.t 39 rfl) (F.k (.int .i64 9000))) fun a F => ?_
   refine qw F (r_add (F.t 33 rfl) (F.t 40 rfl)) fun a F => ?_
   refine as_ F rfl fun a F => ?_
   refine wpList_nil ?_
   replace F := F.only [8, 0, 1, 2, 7, 9] (l' := [(8, _), (0, _), (1, _), (2, _), (7, _), (9, _)]) rfl
   refine wp_region_lit ?_
   refine mv F rfl fun a F => ?_
   refine qw F (r_add (F.t 31 rfl) (F.k (.int .i64 1))) fun a F => ?_
   refine as_ F rfl fun a F => ?_
   refine wpList_nil ?_
   try dsimp only at j_5
   obtain rfl := Option.some.inj j_5
   exact ⟨_, rfl, F.only [0, 1, 2, 7, 8, 9] rfl, H.px2.px1.px0⟩
  rw [if_neg c10] at j_5
  rw [Bool.eq_false_iff.2 c10] at F
  refine wp_cond_false (F.ev rfl) ?_
  refine wp_exit ?_
  try dsimp only at j_5
  obtain rfl := Option.some.inj j_5
  obtain rfl := u_5 _ rfl
  repeat (with_reducible refine exT ?_)
  with_reducible refine exB ?_
  exact ⟨_, rfl, F.only [0, 1, 2, 7, 8] rfl, H⟩
 rintro a w ⟨x5, rfl, F, H⟩
 try dsimp only at h F H
 refine wp_seq ?_
 refine rg ?_
 refine mv F rfl fun a F => ?_
 obtain ⟨x17, e18, h⟩ := Option.bind_eq_some_iff.1 h
 try dsimp only at h
 refine ls (call F Try.func12 (law18_Great_ok (H.p1) e18) rfl rfl fun v w hR a F => ?_)
 obtain ⟨rfl, H⟩ := hR
 refine mv F rfl fun a F => ?_
 by_cases c19 : x17 = true
 ·rw [if_pos c19] at h
  rw [c19] at F
  iterate 2 refine of_ F fun a F => ?_
  refine qw F (r_pickT (F.t 44 rfl) (F.k (.bool true))) fun a F => ?_
  refine mv F rfl fun a F => ?_
  iterate 3 refine of_ F fun a F => ?_
  refine qw F (r_pickT (F.t 48 rfl) (F.k (.bool true))) fun a F => ?_
  refine rgend ?_
  replace F := F.only [52, 0, 1, 2, 7] (l' := [(52, _), (0, _), (1, _), (2, _), (7, _)]) rfl
  refine wp_cond_true (F.ev rfl) ?_
  refine rg ?_
  refine mv F rfl fun a F => ?_
  refine as_ F rfl fun a F => ?_
  refine rgend ?_
  replace F := F.only [6] (l' := [(6, _)]) rfl
  refine wp_ret ?_
  try dsimp only at h
  obtain rfl := Option.some.inj h
  exact RET _ _ (ret1 F rfl rfl ⟨_, rfl, rfl, H.px1.px0⟩)
 rw [if_neg c19] at h
 rw [Bool.eq_false_iff.2 c19] at F
 refine mv F rfl fun a F => ?_
 refine qw F (r_ge (F.t 45 rfl) (F.k (.int .i64 9000))) fun a F => ?_
 refine qw F (r_pickF (F.t 44 rfl) (F.t 46 rfl)) fun a F => ?_
 refine mv F rfl fun a F => ?_
 by_cases c20 : x5 ≥ 9000
 ·rw [if_pos c20] at h
  rw [decide_eq_true c20] at F
  iterate 3 refine of_ F fun a F => ?_
  refine qw F (r_pickT (F.t 48 rfl) (F.k (.bool true))) fun a F => ?_
  refine rgend ?_
  replace F := F.only [52, 0, 1, 2, 7] (l' := [(52, _), (0, _), (1, _), (2, _), (7, _)]) rfl
  refine wp_cond_true (F.ev rfl) ?_
  refine rg ?_
  refine mv F rfl fun a F => ?_
  refine as_ F rfl fun a F => ?_
  refine rgend ?_
  replace F := F.only [6] (l' := [(6, _)]) rfl
  refine wp_ret ?_
  try dsimp only at h
  obtain rfl := Option.some.inj h
  exact RET _ _ (ret1 F rfl rfl ⟨_, rfl, rfl, H.px1.px0⟩)
 rw [if_neg c20] at h
 rw [decide_eq_false c20] at F
 refine mv F rfl fun a F => ?_
 refine qw F (r_len (F.t 49 rfl) Try.underlying51) fun a F => ?_
 refine qw F (r_gt (F.t 50 rfl) (F.k (.int .i64 60))) fun a F => ?_
 refine qw F (r_pickF (F.t 48 rfl) (F.t 51 rfl)) fun a F => ?_
 refine rgend ?_
 replace F := F.only [52, 0, 1, 2, 7] (l' := [(52, _), (0, _), (1, _), (2, _), (7, _)]) rfl
 by_cases c21 : (a1.length : Int) > 60
 ·rw [if_pos c21] at h
  rw [decide_eq_true c21] at F
  refine wp_cond_true (F.ev rfl) ?_
  refine rg ?_
  refine mv F rfl fun a F => ?_
  refine as_ F rfl fun a F => ?_
  refine rgend ?_
  replace F := F.only [6] (l' := [(6, _)]) rfl
  refine wp_ret ?_
  try dsimp only at h
  obtain rfl := Option.some.inj h
  exact RET _ _ (ret1 F rfl rfl ⟨_, rfl, rfl, H.px1.px0⟩)
 rw [if_neg c21] at h
 rw [decide_eq_false c21] at F
 refine wp_cond_false (F.ev rfl) ?_
 refine wp_skip ?_
 refine rg ?_
 refine mv F rfl fun a F => ?_
 refine qw F (r_rem (F.t 54 rfl) (F.k (.int .u8 60)) (by decide)) fun a F => ?_
 refine qw F (r_ci (F.t 55 rfl) Try.underlying3 Try.underlying5) fun a F => ?_
 obtain ⟨x22, e23, h⟩ := Option.bind_eq_some_iff.1 h
 try dsimp only at h
 rcases x22 with _ | x24
 ·try dsimp only at h
  refine ls (call F Try.func11 (disk_New_ok (H) e23) rfl rfl fun v w hR a F => ?_)
  obtain ⟨rfl, H⟩ := hR
  refine as_ F rfl fun a F => ?_
  refine rgend ?_
  replace F := F.only [10, 0, 1, 2, 7] (l' := [(10, _), (0, _), (1, _), (2, _), (7, _)]) rfl
  refine rg ?_
  refine mv F rfl fun a F => ?_
  refine qw F (r_rem (F.t 58 rfl) (F.k (.int .u8 60)) (by decide)) fun a F => ?_
  refine qw F (r_ci (F.t 59 rfl) Try.underlying3 Try.underlying5) fun a F => ?_
  obtain ⟨x25, e26, h⟩ := Option.bind_eq_some_iff.1 h
  try dsimp only at h
  rcases x25 with _ | x27
  ·try dsimp only at h
   refine ls (call F Try.func25 (ref15_New_ok (H) e26) rfl rfl fun v w hR a F => ?_)
   obtain ⟨rfl, H⟩ := hR
   refine as_ F rfl fun a F => ?_
   refine rgend ?_
   replace F := F.only [11, 10, 1, 2, 7] (l' := [(11, _), (10, _), (1, _), (2, _), (7, _)]) rfl
   refine wp_seq ?_
   refine rg ?_
   refine mv F rfl fun a F => ?_
   refine qw F (r_peq0 (F.t 62 rfl) (F.k (.pointer none)) Try.underlying24) fun a F => ?_
   refine mv F rfl fun a F => ?_
   iterate 2 refine of_ F fun a F => ?_
   refine qw F (r_pickT (F.t 64 rfl) (F.k (.bool true))) fun a F => ?_
   refine rgend ?_
   replace F := F.only [67, 11, 10, 1, 2, 7] (l' := [(67, _), (11, _), (10, _), (1, _), (2, _), (7, _)]) rfl
   refine wp_cond_true (F.ev rfl) ?_
   refine rg ?_
   refine as_ F (v := .bool false) rfl fun a F => ?_
   refine rgend ?_
   replace F := F.only [6] (l' := [(6, _)]) rfl
   refine wp_ret ?_
   try dsimp only at h
   obtain rfl := Option.some.inj h
   exact RET _ _ (ret1 F rfl rfl ⟨_, rfl, rfl, H.px1.px0⟩)
  try dsimp only at h
  refine ls (call F Try.func25 (ref15_New_ok (H) e26) rfl rfl fun v w hR a F => ?_)
  obtain ⟨g28, rfl, H⟩ := hR
  refine as_ F rfl fun a F => ?_
  refine rgend ?_
  replace F := F.only [11, 10, 1, 2, 7] (l' := [(11, _), (10, _), (1, _), (2, _), (7, _)]) rfl
  refine wp_seq ?_
  refine rg ?_
  refine mv F rfl fun a F => ?_
  refine qw F (r_peq0 (F.t 62 rfl) (F.k (.pointer none)) Try.underlying24) fun a F => ?_
  refine mv F rfl fun a F => ?_
  iterate 2 refine of_ F fun a F => ?_
  refine qw F (r_pickT (F.t 64 rfl) (F.k (.bool true))) fun a F => ?_
  refine rgend ?_
  replace F := F.only [67, 11, 10, 1, 2, 7] (l' := [(67, _), (11, _), (10, _), (1, _), (2, _), (7, _)]) rfl
  refine wp_cond_true (F.ev rfl) ?_
  refine rg ?_
  refine as_ F (v := .bool false) rfl fun a F => ?_
  refine rgend ?_
  replace F := F.only [6] (l' := [(6, _)]) rfl
  refine wp_ret ?_
  try dsimp only at h
  obtain rfl := Option.some.inj h
  exact RET _ _ (ret1 F rfl rfl ⟨_, rfl, rfl, H.px1.px0.fx0⟩)
 try dsimp only at h
 refine ls (call F Try.func11 (disk_New_ok (H) e23) rfl rfl fun v w hR a F => ?_)
 obtain ⟨g29, rfl, H⟩ := hR
 refine as_ F rfl fun a F => ?_
 refine rgend ?_
 replace F := F.only [10, 0, 1, 2, 7] (l' := [(10, _), (0, _), (1, _), (2, _), (7, _)]) rfl
 refine rg ?_
 refine mv F rfl fun a F => ?_
 refine qw F (r_rem (F.t 58 rfl) (F.k (.int .u8 60)) (by decide)) fun a F => ?_
 refine qw F (r_ci (F.t 59 rfl) Try.underlying3 Try.underlying5) fun a F => ?_
 obtain ⟨x30, e31, h⟩ := Option.bind_eq_some_iff.1 h
 try dsimp only at h
 rcases x30 with _ | x32
 ·try dsimp only at h
  refine ls (call F Try.func25 (ref15_New_ok (H) e31) rfl rfl fun v w hR a F => ?_)
  obtain ⟨rfl, H⟩ := hR
  refine as_ F rfl fun a F => ?_
  refine rgend ?_
  replace F := F.only [11, 10, 1, 2, 7] (l' := [(11, _), (10, _), (1, _), (2, _), (7, _)]) rfl
  refine wp_seq ?_
  refine rg ?_
  refine mv F rfl fun a F => ?_
  refine qw F (r_peq (F.t 62 rfl) (F.k (.pointer none)) Try.underlying24) fun a F => ?_
  iterate 2 refine mv F rfl fun a F => ?_
  refine qw F (r_peq0 (F.t 65 rfl) (F.k (.pointer none)) Try.underlying54) fun a F => ?_
  refine qw F (r_pickF (F.t 64 rfl) (F.t 66 rfl)) fun a F => ?_
  refine rgend ?_
  replace F := F.only [67, 11, 10, 1, 2, 7] (l' := [(67, _), (11, _), (10, _), (1, _), (2, _), (7, _)]) rfl
  refine wp_cond_true (F.ev rfl) ?_
  refine rg ?_
  refine as_ F (v := .bool false) rfl fun a F => ?_
  refine rgend ?_
  replace F := F.only [6] (l' := [(6, _)]) rfl
  refine wp_ret ?_
  try dsimp only at h
  obtain rfl := Option.some.inj h
  exact RET _ _ (ret1 F rfl rfl ⟨_, rfl, rfl, H.px1.px0.fx0⟩)
 try dsimp only at h
 refine ls (call F Try.func25 (ref15_New_ok (H) e31) rfl rfl fun v w hR a F => ?_)
 obtain ⟨g33, rfl, H⟩ := hR
 refine as_ F rfl fun a F => ?_
 refine rgend ?_
 replace F := F.only [11, 10, 1, 2, 7] (l' := [(11, _), (10, _), (1, _), (2, _), (7, _)]) rfl
 refine wp_seq ?_
 refine rg ?_
 refine mv F rfl fun a F => ?_
 refine qw F (r_peq (F.t 62 rfl) (F.k (.pointer none)) Try.underlying24) fun a F => ?_
 iterate 2 refine mv F rfl fun a F => ?_
 refine qw F (r_peq (F.t 65 rfl) (F.k (.pointer none)) Try.underlying54) fun a F => ?_
 refine qw F (r_pickF (F.t 64 rfl) (F.t 66 rfl)) fun a F => ?_
 refine rgend ?_
 replace F := F.only [67, 11, 10, 1, 2, 7] (l' := [(67, _), (11, _), (10, _), (1, _), (2, _), (7, _)]) rfl
 refine wp_cond_false (F.ev rfl) ?_
 refine wp_skip ?_
 refine wp_seq ?_
 refine rg ?_
 refine as_ F (v := .int .i64 0) rfl fun a F => ?_
 refine rgend ?_
 obtain ⟨o_38, k_38, h⟩ := Option.bind_eq_some_iff.1 h
 refine cut (fun a w => ∃ (x37 : ref15_Disk) (x38 : disk_Disk), (x37, x38) = o_38 ∧ Fr 152 [] [(2, .slice A2_ a2.length c2_), (7, .bool x1), (10, pt g29), (11, pt g33)] a ∧ Hp w0 (rd k_law18_Op A2_ c2_ a2 :: ps) (obj_ref15_Disk g33 x37 :: obj_disk_Disk g29 x38 :: fs) w) (wp_block ?_) ?_
 ·refine wloop (law18_StorePlays_b1 a1) (fun (s : Int × ref15_Disk × disk_Disk) a w => Fr 152 [] [(1, .slice A1_ a1.length c1_), (2, .slice A2_ a2.length c2_), (7, .bool x1), (10, pt g29), (11, pt g33), (12, .int .i64 s.1)] a ∧ Hp w0 (rd k_api_Sector A1_ c1_ a1 :: rd k_law18_Op A2_ c2_ a2 :: ps) (obj_ref15_Disk g33 s.2.1 :: obj_disk_Disk g29 s.2.2 :: fs) w) k_38 ⟨F.only [1, 2, 7, 10, 11, 12] rfl, H⟩ ?_
  rintro ⟨x34, x35, x36⟩ a w q_38 j_38 u_38 ⟨F, H⟩
  unfold law18_StorePlays_b1 at j_38
  try dsimp only at j_38 F H
  refine wp_seq ?_
  refine rg ?_
  iterate 2 refine mv F rfl fun a F => ?_
  refine qw F (r_len (F.t 69 rfl) Try.underlying51) fun a F => ?_
  refine qw F (r_lt (F.t 68 rfl) (F.t 70 rfl)) fun a F => ?_
  refine rgend ?_
  by_cases c40 : x34 < (a1.length : Int)
  ·rw [if_pos c40] at j_38
   rw [decide_eq_true c40] at F
   refine wp_cond_true (F.ev rfl) ?_
   refine wp_skip ?_
   refine wp_seq ?_
   refine wp_block ?_
   refine rg ?_
   iterate 4 refine mv F rfl fun a F => ?_
   obtain ⟨c41, j_38⟩ := guardO j_38
   obtain ⟨g42, o43, s44, hr, H⟩ := H.ix (⟨0, 0, 0, 0, []⟩ : api_Sector) 0 rfl (F.t 76 rfl) (F.t 77 rfl) Try.underlying51 sz53 (by decide) c41.1 c41.2
   obtain ⟨A45, c46, rfl, H⟩ := H.open_api_Sector 1 rfl
   refine qw F (hr _ _ _ _ _ _) fun a F => ?_
   refine qw F (r_ldA (F.t 78 rfl) (H.range 1 rfl) agg53 rfl) fun a F => ?_
   obtain ⟨x47, e48, j_38⟩ := Option.bind_eq_some_iff.1 j_38
   try dsimp only at j_38
   refine ls (call F Try.func27 (ref16_Put_ok (a0 := (a1.getD (x34 : Int).toNat (⟨0, 0, 0, 0, []⟩ : api_Sector))) (H.p0) e48) rfl rfl fun v w hR a F => ?_)
   obtain ⟨A49, c50, rfl, H⟩ := hR
   obtain ⟨⟨x51, x52⟩, e53, j_38⟩ := Option.bind_eq_some_iff.1 j_38
   try dsimp only at j_38
   refine ls (call F Try.func26 (disk_Disk_Write_ok (H.p0.f1) e53) rfl rfl fun v w hR a F => ?_)
   obtain ⟨rfl, H⟩ := hR
   refine rgend ?_
   replace F := F.only [1, 2, 7, 10, 11, 12] (l' := [(1, _), (2, _), (7, _), (10, _), (11, _), (12, _)]) rfl
   refine wp_region_lit ?_
   iterate 4 refine mv F rfl fun a F => ?_
   obtain ⟨c54, j_38⟩ := guardO j_38
   obtain ⟨g55, o56, s57, hr, H⟩ := H.ix (⟨0, 0, 0, 0, []⟩ : api_Sector) 4 rfl (F.t 84 rfl) (F.t 85 rfl) Try.underlying51 sz53 (by decide) c54.1 c54.2
   obtain ⟨A58, c59, rfl, H⟩ := H.open_api_Sector 1 rfl
   refine qw F (hr _ _ _ _ _ _) fun a F => ?_
   refine qw F (r_ldA (F.t 86 rfl) (H.range 1 rfl) agg53 rfl) fun a F => ?_
   obtain ⟨x60, e61, j_38⟩ := Option.bind_eq_some_iff.1 j_38
   try dsimp only at j_38
   refine ls (call F Try.func27 (ref16_Put_ok (a0 := (a1.getD (x34 : Int).toNat (⟨0, 0, 0, 0, []⟩ : api_Sector))) (H.p0) e61) rfl rfl fun v w hR a F => ?_)
   obtain ⟨A62, c63, rfl, H⟩ := hR
   obtain ⟨⟨x64, x65⟩, e66, j_38⟩ := Option.bind_eq_some_iff.1 j_38
   try dsimp only at j_38
   refine ls (call F Try.func28 (ref15_Disk_Write_ok (H.p0.f1) e66) rfl rfl fun v w hR a F => ?_)
   obtain ⟨rfl, H⟩ := hR
   refine wpList_nil ?_
   replace F := F.only [1, 2, 7, 10, 11, 12] (l' := [(1, _), (2, _), (7, _), (10, _), (11, _), (12, _)]) rfl
   refine wp_region_lit ?_
   refine mv F rfl fun a F => ?_
   refine qw F (r_add (F.t 72 rfl) (F.k (.int .i64 1))) fun a F => ?_
   refine as_ F rfl fun a F => ?_
   refine wpList_nil ?_
   try dsimp only at j_38
   obtain rfl := Option.some.inj j_38
   exact ⟨_, rfl, F.only [1, 2, 7, 10, 11, 12] rfl, H.px7.px6.px5.px4.px3.px2.px1.px0⟩
  rw [if_neg c40] at j_38
  rw [decide_eq_false c40] at F
  refine wp_cond_false (F.ev rfl) ?_
  refine wp_exit ?_
  try dsimp only at j_38
  obtain rfl := Option.some.inj j_38
  obtain rfl := u_38 _ rfl
  repeat (with_reducible refine exT ?_)
  with_reducible refine exB ?_
  exact ⟨_, _, rfl, F.only [2, 7, 10, 11] rfl, H.px0⟩
 rintro a w ⟨x37, x38, rfl, F, H⟩
 try dsimp only at h F H
 refine rg ?_
 refine mv F rfl fun a F => ?_
 obtain ⟨⟨x67, x68⟩, e69, h⟩ := Option.bind_eq_some_iff.1 h
 try dsimp only at h
 refine ls (call F Try.func29 (disk_Disk_Sync_ok (H.f1) e69) rfl rfl fun v w hR a F => ?_)
 obtain ⟨rfl, H⟩ := hR
 refine rgend ?_
 refine rg ?_
 refine mv F rfl fun a F => ?_
 obtain ⟨⟨x70, x71⟩, e72, h⟩ := Option.bind_eq_some_iff.1 h
 try dsimp only at h
 refine ls (call F Try.func30 (ref15_Disk_Sync_ok (H.f1) e72) rfl rfl fun v w hR a F => ?_)
 obtain ⟨rfl, H⟩ := hR
 refine rgend ?_
 replace F := F.only [2, 7, 10, 11] (l' := [(2, _), (7, _), (10, _), (11, _)]) rfl
 refine rg ?_
 refine mv F rfl fun a F => ?_
 obtain ⟨x73, e74, h⟩ := Option.bind_eq_some_iff.1 h
 try dsimp only at h
 refine ls (call F Try.func13 (store_Open_ok (H.f1) e74) rfl rfl fun v w hR a F => ?_)
 obtain ⟨g75, rfl, H⟩ := hR
 refine as_ F rfl fun a F => ?_
 refine rgend ?_
 refine rg ?_
 refine mv F rfl fun a F => ?_
 obtain ⟨x76, e77, h⟩ := Option.bind_eq_some_iff.1 h
 try dsimp only at h
 refine ls (call F Try.func31 (ref18_Open_ok (H.f1.f1.f2) e77) rfl rfl fun v w hR a F => ?_)
 obtain ⟨g78, rfl, H⟩ := hR
 refine as_ F rfl fun a F => ?_
 refine rgend ?_
 replace F := F.only [14, 13, 2, 7, 10, 11] (l' := [(14, _), (13, _), (2, _), (7, _), (10, _), (11, _)]) rfl
 refine wp_seq ?_
 refine rg ?_
 refine mv F rfl fun a F => ?_
 refine qw F (r_peq (F.t 98 rfl) (F.k (.pointer none)) Try.underlying27) fun a F => ?_
 iterate 5 refine mv F rfl fun a F => ?_
 obtain ⟨x79, e80, h⟩ := Option.bind_eq_some_iff.1 h
 try dsimp only at h
 refine ls (call F Try.func32 (law18_alike_ok (H.f1.f2.f3) e80) rfl rfl fun v w hR a F => ?_)
 obtain ⟨rfl, H⟩ := hR
 refine qw F (r_not (F.t 105 rfl)) fun a F => ?_
 refine qw F (r_pickF (F.t 100 rfl) (F.t 106 rfl)) fun a F => ?_
 refine rgend ?_
 replace F := F.only [107, 14, 13, 2, 7, 10, 11] (l' := [(107, _), (14, _), (13, _), (2, _), (7, _), (10, _), (11, _)]) rfl
 by_cases c81 : x79 = true
 ·rw [if_pos c81] at h
  rw [c81] at F
  refine wp_cond_false (F.ev rfl) ?_
  refine wp_skip ?_
  refine wp_seq ?_
  refine rg ?_
  refine as_ F (v := .int .i64 0) rfl fun a F => ?_
  refine rgend ?_
  obtain ⟨o_90, k_90, h⟩ := Option.bind_eq_some_iff.1 h
  refine cut (fun a w => ∃ (x89 : ref15_Disk) (x90 : disk_Disk), Sum.inl (x89, x90) = o_90 ∧ Fr 152 [] [(7, .bool x1)] a ∧ Hp w0 ps (obj_ref15_Disk g33 x89 :: obj_disk_Disk g29 x90 :: fs) w) (wp_block ?_) ?_
  ·refine wloop (law18_StorePlays_b2 a2) (fun (s : store_Store × ref18_Store × Int × ref15_Disk × disk_Disk) a w => ∃ (g82 : Nat) (g84 : Nat), Fr 152 [] [(2, .slice A2_ a2.length c2_), (7, .bool x1), (10, pt g29), (11, pt g33), (13, pt g82), (14, pt g84), (15, .int .i64 s.2.2.1)] a ∧ Hp w0 (rd k_law18_Op A2_ c2_ a2 :: ps) (obj_store_Store g82 g29 s.1 :: obj_ref18_Store g84 g33 s.2.1 :: obj_ref15_Disk g33 s.2.2.2.1 :: obj_disk_Disk g29 s.2.2.2.2 :: fs) w) k_90 ⟨g75, g78, F.only [2, 7, 10, 11, 13, 14, 15] rfl, H.f2.f3.f3⟩ ?_
   rintro ⟨x83, x85, x86, x87, x88⟩ a w q_90 j_90 u_90 ⟨g82, g84, F, H⟩
   unfold law18_StorePlays_b2 at j_90
   try dsimp only at j_90 F H
   refine wp_seq ?_
   refine rg ?_
   iterate 2 refine mv F rfl fun a F => ?_
   refine qw F (r_len (F.t 109 rfl) Try.underlying22) fun a F => ?_
   refine qw F (r_lt (F.t 108 rfl) (F.t 110 rfl)) fun a F => ?_
   refine rgend ?_
   by_cases c92 : x86 < (a2.length : Int)
   ·rw [if_pos c92] at j_90
    rw [decide_eq_true c92] at F
    refine wp_cond_true (F.ev rfl) ?_
    refine wp_skip ?_
    refine wp_seq ?_
    refine wp_block ?_
    refine rg ?_
    iterate 4 refine mv F rfl fun a F => ?_
    obtain ⟨c93, j_90⟩ := guardO j_90
    obtain ⟨g94, o95, s96, hr, H⟩ := H.ix (⟨0, [], [], [], 0, []⟩ : law18_Op) 0 rfl (F.t 117 rfl) (F.t 118 rfl) Try.underlying22 sz35 (by decide) c93.1 c93.2
    obtain ⟨A97, c98, A99, c100, A101, c102, A103, c104, rfl, H⟩ := H.open_law18_Op 1 rfl
    refine qw F (hr _ _ _ _ _ _) fun a F => ?_
    refine qw F (r_ldA (F.t 119 rfl) (H.range 4 rfl) agg35 rfl) fun a F => ?_
    obtain ⟨⟨x105, x106, x107⟩, e108, j_90⟩ := Option.bind_eq_some_iff.1 j_90
    try dsimp only at j_90
    refine ls (call F Try.func14 (law18_do_ok (a2 := (a2.getD (x86 : Int).toNat (⟨0, [], [], [], 0, []⟩ : law18_Op))) (H.p3.p3.p3.p3.f2.f2.f2.f3) e108) rfl rfl fun v w hR a F => ?_)
    obtain ⟨g109, rfl, H⟩ := hR
    refine mv F rfl fun a F => ?_
    iterate 2 refine qw F (r_ex (F.t 114 rfl) rfl) fun a F => ?_
    iterate 2 refine as_ F rfl fun a F => ?_
    refine rgend ?_
    replace F := F.only [17, 16, 2, 7, 10, 11, 14, 15] (l' := [(17, _), (16, _), (2, _), (7, _), (10, _), (11, _), (14, _), (15, _)]) rfl
    refine rg ?_
    iterate 4 refine mv F rfl fun a F => ?_
    obtain ⟨c110, j_90⟩ := guardO j_90
    obtain ⟨g111, o112, s113, hr, H⟩ := H.ix (⟨0, [], [], [], 0, []⟩ : law18_Op) 6 rfl (F.t 127 rfl) (F.t 128 rfl) Try.underlying22 sz35 (by decide) c110.1 c110.2
    obtain ⟨A114, c115, A116, c117, A118, c119, A120, c121, rfl, H⟩ := H.open_law18_Op 1 rfl
    refine qw F (hr _ _ _ _ _ _) fun a F => ?_
    refine qw F (r_ldA (F.t 129 rfl) (H.range 4 rfl) agg35 rfl) fun a F => ?_
    obtain ⟨⟨x122, x123, x124⟩, e125, j_90⟩ := Option.bind_eq_some_iff.1 j_90
    try dsimp only at j_90
    refine ls (call F Try.func33 (law18_plain_ok (a2 := (a2.getD (x86 : Int).toNat (⟨0, [], [], [], 0, []⟩ : law18_Op))) (H.p3.p3.p3.p3.f1.f1.f2.f3) e125) rfl rfl fun v w hR a F => ?_)
    obtain ⟨g126, rfl, H⟩ := hR
    refine mv F rfl fun a F => ?_
    iterate 2 refine qw F (r_ex (F.t 124 rfl) rfl) fun a F => ?_
    iterate 2 refine as_ F rfl fun a F => ?_
    refine rgend ?_
    replace F := F.only [19, 18, 17, 16, 2, 7, 10, 11, 15] (l' := [(19, _), (18, _), (17, _), (16, _), (2, _), (7, _), (10, _), (11, _), (15, _)]) rfl
    refine wp_seq ?_
    refine rg ?_
    refine mv F rfl fun a F => ?_
    refine qw F (r_peq (F.t 134 rfl) (F.k (.pointer none)) Try.underlying27) fun a F => ?_
    iterate 3 refine mv F rfl fun a F => ?_
    refine qw F (r_ne (F.t 137 rfl) (F.t 138 rfl)) fun a F => ?_
    refine qw F (r_pickF (F.t 136 rfl) (F.t 139 rfl)) fun a F => ?_
    refine mv F rfl fun a F => ?_
    by_cases c127 : x106 ≠ x123
    ·rw [if_pos c127] at j_90
     rw [decide_eq_true c127] at F
     iterate 6 refine of_ F fun a F => ?_
     refine qw F (r_pickT (F.t 141 rfl) (F.k (.bool true))) fun a F => ?_
     refine rgend ?_
     replace F := F.only [148, 18, 16, 2, 7, 10, 11, 15] (l' := [(148, _), (18, _), (16, _), (2, _), (7, _), (10, _), (11, _), (15, _)]) rfl
     refine wp_cond_true (F.ev rfl) ?_
     refine rg ?_
     refine as_ F (v := .bool false) rfl fun a F => ?_
     refine rgend ?_
     replace F := F.only [6] (l' := [(6, _)]) rfl
     refine wp_ret ?_
     try dsimp only at j_90
     obtain rfl := Option.some.inj j_90
     obtain rfl := u_90 _ rfl
     try dsimp only at h
     obtain rfl := Option.some.inj h
     exact RET _ _ (ret1 F rfl rfl ⟨_, rfl, rfl, H.px12.px11.px10.px9.px8.px7.px6.px5.px4.px3.px2.px1.px0.fx3.fx2.fx1.fx0⟩)
    rw [if_neg c127] at j_90
    rw [decide_eq_false c127] at F
    iterate 4 refine mv F rfl fun a F => ?_
    obtain ⟨x128, e129, j_90⟩ := Option.bind_eq_some_iff.1 j_90
    try dsimp only at j_90
    refine ls (call F Try.func32 (law18_alike_ok (H.f1.f2.f3) e129) rfl rfl fun v w hR a F => ?_)
    obtain ⟨rfl, H⟩ := hR
    refine qw F (r_not (F.t 146 rfl)) fun a F => ?_
    refine qw F (r_pickF (F.t 141 rfl) (F.t 147 rfl)) fun a F => ?_
    refine rgend ?_
    replace F := F.only [148, 18, 16, 2, 7, 10, 11, 15] (l' := [(148, _), (18, _), (16, _), (2, _), (7, _), (10, _), (11, _), (15, _)]) rfl
    by_cases c130 : x128 = true
    ·rw [if_pos c130] at j_90
     rw [c130] at F
     refine wp_cond_false (F.ev rfl) ?_
     refine wp_skip ?_
     refine rg ?_
     refine mv F rfl fun a F => ?_
     refine as_ F rfl fun a F => ?_
     refine rgend ?_
     refine wp_region_lit ?_
     refine mv F rfl fun a F => ?_
     refine as_ F rfl fun a F => ?_
     refine wpList_nil ?_
     replace F := F.only [14, 13, 2, 7, 10, 11, 15] (l' := [(14, _), (13, _), (2, _), (7, _), (10, _), (11, _), (15, _)]) rfl
     refine wp_region_lit ?_
     refine mv F rfl fun a F => ?_
     refine qw F (r_add (F.t 112 rfl) (F.k (.int .i64 1))) fun a F => ?_
     refine as_ F rfl fun a F => ?_
     refine wpList_nil ?_
     try dsimp only at j_90
     obtain rfl := Option.some.inj j_90
     exact ⟨_, rfl, g109, g126, F.only [2, 7, 10, 11, 13, 14, 15] rfl, H.px11.px10.px9.px8.px7.px6.px5.px4.px3.px2.px1.px0.f2.f3.f3⟩
    rw [if_neg c130] at j_90
    rw [Bool.eq_false_iff.2 c130] at F
    refine wp_cond_true (F.ev rfl) ?_
    refine rg ?_
    refine as_ F (v := .bool false) rfl fun a F => ?_
    refine rgend ?_
    replace F := F.only [6] (l' := [(6, _)]) rfl
    refine wp_ret ?_
    try dsimp only at j_90
    obtain rfl := Option.some.inj j_90
    obtain rfl := u_90 _ rfl
    try dsimp only at h
    obtain rfl := Option.some.inj h
    exact RET _ _ (ret1 F rfl rfl ⟨_, rfl, rfl, H.px12.px11.px10.px9.px8.px7.px6.px5.px4.px3.px2.px1.px0.fx3.fx2.fx1.fx0⟩)
   rw [if_neg c92] at j_90
   rw [decide_eq_false c92] at F
   refine wp_cond_false (F.ev rfl) ?_
   refine wp_exit ?_
   try dsimp only at j_90
   obtain rfl := Option.some.inj j_90
   obtain rfl := u_90 _ rfl
   repeat (with_reducible refine exT ?_)
   with_reducible refine exB ?_
   exact ⟨_, _, rfl, F.only [7] rfl, H.px0.fx1.fx0⟩
  rintro a w ⟨x89, x90, rfl, F, H⟩
  try dsimp only at h F H
  refine rg ?_
  refine mv F rfl fun a F => ?_
  refine as_ F rfl fun a F => ?_
  refine rgend ?_
  refine wp_ret ?_
  try dsimp only at h
  obtain rfl := Option.some.inj h
  exact RET _ _ (ret1 F rfl rfl ⟨_, rfl, rfl, H.fx1.fx0⟩)
 rw [if_neg c81] at h
 rw [Bool.eq_false_iff.2 c81] at F
 refine wp_cond_true (F.ev rfl) ?_
 refine rg ?_
 refine as_ F (v := .bool false) rfl fun a F => ?_
 refine rgend ?_
 replace F := F.only [6] (l' := [(6, _)]) rfl
 refine wp_ret ?_
 try dsimp only at h
 obtain rfl := Option.some.inj h
 exact RET _ _ (ret1 F rfl rfl ⟨_, rfl, rfl, H.px0.fx3.fx2.fx1.fx0⟩)
end Go.Proofs.Ytpmkpiffbdcflaa
