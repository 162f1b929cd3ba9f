/- What the functions compute. Printed by wip/gen. -/
import Derived.Test.YtpmkpiffbdcflaaGL
set_option linter.unusedVariables false
set_option linter.unusedSimpArgs false
namespace Go.Proofs.Ytpmkpiffbdcflaa
open Go Go.RowKit
def law18_StoreAgain_b0 (a1 : List law18_Op) : (store_Store × Int × disk_Disk) → Option (store_Store × Int × disk_Disk ⊕ disk_Disk)
 | (x15, x16, x17) => (((if x16 < (a1.length : Int) then some true else some false) : Option (Bool)).bind fun x20 => (if x20 = true then (if 0 ≤ x16 ∧ x16 < (a1.length : Int) then ((law18_do_f x17 x15 ((a1.getD (x16 : Int).toNat (⟨0, [], [], [], 0, []⟩ : law18_Op)))).bind fun (x36, x37, x38) => some (.inl (x36, IntKind.i64.wrap (x16 + 1), x38))) else none) else some (.inr x17)))
def law18_StoreAgain_f (a0 : Int) (a1 : List law18_Op) (a2 : List Bool) (a3 : Int) : Option (Bool) :=
 ((law18_head_f).bind fun x1 => ((disk_New_f (IntKind.i64.wrap a0)).bind fun x3 => match x3 with | none => some false | some x5 => ((law18_Great_f a1).bind fun x7 => (if x7 = true then some x1 else (if (a2.length : Int) > 900 then some x1 else ((store_Open_f x5).bind fun x11 => ((lp (law18_StoreAgain_b0 a1) (x11, 0, x5)).bind fun x18 => ((disk_Disk_Crash_f x18 a2 a3).bind fun x41 => ((store_Open_f x41).bind fun x43 => ((disk_Disk_Pending_f x41).bind fun x46 => ((disk_Disk_Crash_f x41 a2 a3).bind fun x48 => ((store_Open_f x48).bind fun x50 => (((if x1 = true then (if x46 = 0 then ((store_Store_Has_f x43).bind fun x57 => ((store_Store_Has_f x50).bind fun x59 => (if (x57 == x59) = true then ((store_Store_Gen_f x43).bind fun x62 => ((store_Store_Gen_f x50).bind fun x64 => (if x62 = x64 then ((store_Store_State_f x43).bind fun x67 => ((store_Store_State_f x50).bind fun x72 => (if x67 = x72 then ((store_Store_Entries_f x43).bind fun x78 => ((store_Store_Entries_f x50).bind fun x82 => ((ref17_SameRows_f x78 x82).bind fun x86 => some x86))) else some false))) else some false))) else some false))) else some false) else some false) : Option (Bool)).bind fun x53 => some x53)))))))))))))
set_option maxHeartbeats 4000000 in
set_option maxRecDepth 20000 in
theorem law18_StoreAgain_ok {w0 w : World} {ps : List PF} {fs : List SF} {a0 : Int} {a1 : List law18_Op} {A1_ : Option Addr} {c1_ : Nat} {a2 : List Bool} {A2_ : Option Addr} {c2_ : Nat} {a3 : Int} {r0 : Bool} (H : Hp w0 (rd k_law18_Op A1_ c1_ a1 :: rd kBool A2_ c2_ a2 :: ps) fs w) (h : law18_StoreAgain_f a0 a1 a2 a3 = some r0) (ha0 : 0 ≤ a0 ∧ a0 < 256) :
  Calls Try.prog 9 [.int .u8 a0, .slice A1_ a1.length c1_, .slice A2_ a2.length c2_, .int .i64 a3].toArray w fun e w' => ∃ v, e = .returned v ∧ v = .bool r0 ∧ Hp w0 ps fs w' := by
 refine enter [.int .u8 a0, .slice A1_ a1.length c1_, .slice A2_ a2.length c2_, .int .i64 a3] 113 Try.func9 fun Q a NP RET NRM F => ?_
 replace NP : ∀ c a w, ¬ Q (.panic c) a w := fun c a w h => by rcases NP c a w h with h | ⟨w, v, h, _⟩ <;> cases h
 unfold law18_StoreAgain_f at h
 refine rg ?_
 refine as_ F (v := .bool false) rfl fun a F => ?_
 refine rgend ?_
 refine rg ?_
 obtain ⟨x1, e2, h⟩ := Option.bind_eq_some_iff.1 h
 try dsimp only at h
 refine ls (call F Try.func10 (law18_head_ok (H) e2) rfl rfl fun v w hR a F => ?_)
 obtain ⟨rfl, H⟩ := hR
 refine as_ F rfl fun a F => ?_
 refine rgend ?_
 refine rg ?_
 refine mv F rfl fun a F => ?_
 refine qw F (r_ci (F.t 17 rfl) Try.underlying3 Try.underlying5) fun a F => ?_
 obtain ⟨x3, e4, h⟩ := Option.bind_eq_some_iff.1 h
 try dsimp only at h
 rcases x3 with _ | x5
 ·try dsimp only at h
  refine ls (call F Try.func11 (disk_New_ok (H) e4) rfl rfl fun v w hR a F => ?_)
  obtain ⟨rfl, H⟩ := hR
  refine as_ F rfl fun a F => ?_
  refine rgend ?_
  replace F := F.only [10, 9, 1, 2, 3] (l' := [(10, .pointer none), (9, .bool x1), (1, .slice A1_ a1.length c1_), (2, .slice A2_ a2.length c2_), (3, .int .i64 a3)]) rfl
  refine wp_seq ?_
  refine rg ?_
  refine mv F rfl fun a F => ?_
  refine qw F (r_peq0 (F.t 20 rfl) (F.ev (x := .const (.pointer none)) rfl) Try.underlying24) fun a F => ?_
  refine mv F rfl fun a F => ?_
  refine of_ F fun a F => ?_
  refine of_ F fun a F => ?_
  refine qw F (r_pickT (F.t 22 rfl) (F.ev (x := .const (.bool true)) rfl)) fun a F => ?_
  refine mv F rfl fun a F => ?_
  refine of_ F fun a F => ?_
  refine of_ F fun a F => ?_
  refine of_ F fun a F => ?_
  refine qw F (r_pickT (F.t 26 rfl) (F.ev (x := .const (.bool true)) rfl)) fun a F => ?_
  refine rgend ?_
  replace F := F.only [30, 10, 9, 1, 2, 3] (l' := [(30, .bool true), (10, .pointer none), (9, .bool x1), (1, .slice A1_ a1.length c1_), (2, .slice A2_ a2.length c2_), (3, .int .i64 a3)]) rfl
  refine wp_cond_true (F.ev rfl) ?_
  refine wp_seq ?_
  refine wp_region_lit ?_
  refine mv F rfl fun a F => ?_
  refine qw F (r_pne0 (F.t 31 rfl) (F.ev (x := .const (.pointer none)) rfl) Try.underlying24) fun a F => ?_
  refine mv F rfl fun a F => ?_
  refine of_ F fun a F => ?_
  refine qw F (r_pickF (F.t 33 rfl) (F.ev (x := .const (.bool false)) rfl)) fun a F => ?_
  refine as_ F rfl fun a F => ?_
  refine wpList_nil ?_
  replace F := F.only [8] (l' := [(8, .bool false)]) rfl
  refine wp_ret ?_
  try dsimp only at h
  obtain rfl := Option.some.inj h
  exact RET _ _ (ret1 F rfl rfl ⟨_, rfl, rfl, H.px1.px0⟩)
 ·try dsimp only at h
  refine ls (call F Try.func11 (disk_New_ok (H) e4) rfl rfl fun v w hR a F => ?_)
  obtain ⟨g6, rfl, H⟩ := hR
  refine as_ F rfl fun a F => ?_
  refine rgend ?_
  replace F := F.only [10, 9, 1, 2, 3] (l' := [(10, .pointer (some ⟨g6, 0, none⟩)), (9, .bool x1), (1, .slice A1_ a1.length c1_), (2, .slice A2_ a2.length c2_), (3, .int .i64 a3)]) rfl
  refine wp_seq ?_
  refine rg ?_
  refine mv F rfl fun a F => ?_
  refine qw F (r_peq (F.t 20 rfl) (F.ev (x := .const (.pointer none)) rfl) Try.underlying24) fun a F => ?_
  refine mv F rfl fun a F => ?_
  refine mv F rfl fun a F => ?_
  obtain ⟨x7, e8, h⟩ := Option.bind_eq_some_iff.1 h
  try dsimp only at h
  refine ls (call F Try.func12 (law18_Great_ok (H.p0) e8) rfl rfl fun v w hR a F => ?_)
  obtain ⟨rfl, H⟩ := hR
  refine qw F (r_pickF (F.t 22 rfl) (F.t 24 rfl)) fun a F => ?_
  refine mv F rfl fun a F => ?_
  by_cases c9 : x7 = true
  ·rw [if_pos c9] at h
   rw [c9] at F
   refine of_ F fun a F => ?_
   refine of_ F fun a F => ?_
   refine of_ F fun a F => ?_
   refine qw F (r_pickT (F.t 26 rfl) (F.ev (x := .const (.bool true)) rfl)) fun a F => ?_
   refine rgend ?_
   replace F := F.only [30, 10, 9, 1, 2, 3] (l' := [(30, .bool true), (10, .pointer (some ⟨g6, 0, none⟩)), (9, .bool x1), (1, .slice A1_ a1.length c1_), (2, .slice A2_ a2.length c2_), (3, .int .i64 a3)]) rfl
   refine wp_cond_true (F.ev rfl) ?_
   refine wp_seq ?_
   refine wp_region_lit ?_
   refine mv F rfl fun a F => ?_
   refine qw F (r_pne (F.t 31 rfl) (F.ev (x := .const (.pointer none)) rfl) Try.underlying24) fun a F => ?_
   refine mv F rfl fun a F => ?_
   refine mv F rfl fun a F => ?_
   refine qw F (r_pickT (F.t 33 rfl) (F.t 34 rfl)) fun a F => ?_
   refine as_ F rfl fun a F => ?_
   refine wpList_nil ?_
   replace F := F.only [8] (l' := [(8, .bool x1)]) rfl
   refine wp_ret ?_
   try dsimp only at h
   obtain rfl := Option.some.inj h
   exact RET _ _ (ret1 F rfl rfl ⟨_, rfl, rfl, H.px1.px0.fx0⟩)
  ·rw [if_neg c9] at h
   rw [Bool.eq_false_iff.2 c9] at F
   refine mv F rfl fun a F => ?_
   refine qw F (r_len (F.t 27 rfl) Try.underlying33) fun a F => ?_
   refine qw F (r_gt (F.t 28 rfl) (F.ev (x := .const (.int .i64 900)) rfl)) fun a F => ?_
   refine qw F (r_pickF (F.t 26 rfl) (F.t 29 rfl)) fun a F => ?_
   refine rgend ?_
   replace F := F.only [30, 10, 9, 1, 2, 3] (l' := [(30, .bool (decide ((a2.length : Int) > 900))), (10, .pointer (some ⟨g6, 0, none⟩)), (9, .bool x1), (1, .slice A1_ a1.length c1_), (2, .slice A2_ a2.length c2_), (3, .int .i64 a3)]) rfl
   by_cases c10 : (a2.length : Int) > 900
   ·rw [if_pos c10] at h
    rw [decide_eq_true c10] at F
    refine wp_cond_true (F.ev rfl) ?_
    refine wp_seq ?_
    refine wp_region_lit ?_
    refine mv F rfl fun a F => ?_
    refine qw F (r_pne (F.t 31 rfl) (F.ev (x := .const (.pointer none)) rfl) Try.underlying24) fun a F => ?_
    refine mv F rfl fun a F => ?_
    refine mv F rfl fun a F => ?_
    refine qw F (r_pickT (F.t 33 rfl) (F.t 34 rfl)) fun a F => ?_
    refine as_ F rfl fun a F => ?_
    refine wpList_nil ?_
    replace F := F.only [8] (l' := [(8, .bool x1)]) rfl
    refine wp_ret ?_
    try dsimp only at h
    obtain rfl := Option.some.inj h
    exact RET _ _ (ret1 F rfl rfl ⟨_, rfl, rfl, H.px1.px0.fx0⟩)
   ·rw [if_neg c10] at h
    rw [decide_eq_false c10] at F
    refine wp_cond_false (F.ev rfl) ?_
    refine wp_skip ?_
    refine rg ?_
    refine mv F rfl fun a F => ?_
    obtain ⟨x11, e12, h⟩ := Option.bind_eq_some_iff.1 h
    try dsimp only at h
    refine ls (call F Try.func13 (store_Open_ok (H) e12) rfl rfl fun v w hR a F => ?_)
    obtain ⟨g13, rfl, H⟩ := hR
    refine as_ F rfl fun a F => ?_
    refine rgend ?_
    refine wp_seq ?_
    refine rg ?_
    refine as_ F (v := .int .i64 0) rfl fun a F => ?_
    refine rgend ?_
    obtain ⟨o_18, k_18, h⟩ := Option.bind_eq_some_iff.1 h
    refine cut (fun a w => ∃ (x18 : disk_Disk), x18 = o_18 ∧ Fr 113 [] [(2, .slice A2_ a2.length c2_), (3, .int .i64 a3), (9, .bool x1), (10, .pointer (some ⟨g6, 0, none⟩))] a ∧ Hp w0 (rd kBool A2_ c2_ a2 :: ps) (obj_disk_Disk g6 x18 :: fs) w) (wp_block ?_) ?_
    ·refine wloop (law18_StoreAgain_b0 a1) (fun (s : store_Store × Int × disk_Disk) a w => ∃ (g14 : Nat), Fr 113 [] [(1, .slice A1_ a1.length c1_), (2, .slice A2_ a2.length c2_), (3, .int .i64 a3), (9, .bool x1), (10, .pointer (some ⟨g6, 0, none⟩)), (11, .pointer (some ⟨g14, 0, none⟩)), (12, .int .i64 s.2.1)] a ∧ Hp w0 (rd k_law18_Op A1_ c1_ a1 :: rd kBool A2_ c2_ a2 :: ps) (obj_store_Store g14 g6 s.1 :: obj_disk_Disk g6 s.2.2 :: fs) w) k_18 ⟨g13, F.only [1, 2, 3, 9, 10, 11, 12] rfl, H⟩ ?_
     rintro ⟨x15, x16, x17⟩ a w q_18 j_18 u_18 ⟨g14, F, H⟩
     unfold law18_StoreAgain_b0 at j_18
     try dsimp only at j_18 F H
     refine wp_seq ?_
     refine wp_seq ?_
     obtain ⟨o_20, k_20, j_18⟩ := Option.bind_eq_some_iff.1 j_18
     refine cut (fun a w => ∃ (x20 : Bool), x20 = o_20 ∧ Fr 113 [] [(1, .slice A1_ a1.length c1_), (2, .slice A2_ a2.length c2_), (3, .int .i64 a3), (9, .bool x1), (10, .pointer (some ⟨g6, 0, none⟩)), (11, .pointer (some ⟨g14, 0, none⟩)), (12, .int .i64 x16), (45, .bool x20)] a ∧ Hp w0 (rd k_law18_Op A1_ c1_ a1 :: rd kBool A2_ c2_ a2 :: ps) (obj_disk_Disk g6 x17 :: obj_store_Store g14 g6 x15 :: fs) w) ?_ ?_
     ·skip
      refine wp_region_lit ?_
      refine mv F rfl fun a F => ?_
      refine mv F rfl fun a F => ?_
      refine qw F (r_len (F.t 39 rfl) Try.underlying22) fun a F => ?_
      refine qw F (r_lt (F.t 38 rfl) (F.t 40 rfl)) fun a F => ?_
      refine mv F rfl fun a F => ?_
      by_cases c22 : x16 < (a1.length : Int)
      ·rw [if_pos c22] at k_20
       rw [decide_eq_true c22] at F
       refine mv F rfl fun a F => ?_
       refine qw F (r_pne (F.t 43 rfl) (F.ev (x := .const (.pointer none)) rfl) Try.underlying27) fun a F => ?_
       refine qw F (r_pickT (F.t 42 rfl) (F.t 44 rfl)) fun a F => ?_
       refine wpList_nil ?_
       replace F := F.only [45, 1, 2, 3, 9, 10, 11, 12] (l' := [(45, .bool true), (1, .slice A1_ a1.length c1_), (2, .slice A2_ a2.length c2_), (3, .int .i64 a3), (9, .bool x1), (10, .pointer (some ⟨g6, 0, none⟩)), (11, .pointer (some ⟨g14, 0, none⟩)), (12, .int .i64 x16)]) rfl
       try dsimp only at k_20
       obtain rfl := Option.some.inj k_20
       exact ⟨_, rfl, F.only [1, 2, 3, 9, 10, 11, 12, 45] rfl, H.f1⟩
      ·rw [if_neg c22] at k_20
       rw [decide_eq_false c22] at F
       refine of_ F fun a F => ?_
       refine of_ F fun a F => ?_
       refine qw F (r_pickF (F.t 42 rfl) (F.ev (x := .const (.bool false)) rfl)) fun a F => ?_
       refine wpList_nil ?_
       replace F := F.only [45, 1, 2, 3, 9, 10, 11, 12] (l' := [(45, .bool false), (1, .slice A1_ a1.length c1_), (2, .slice A2_ a2.length c2_), (3, .int .i64 a3), (9, .bool x1), (10, .pointer (some ⟨g6, 0, none⟩)), (11, .pointer (some ⟨g14, 0, none⟩)), (12, .int .i64 x16)]) rfl
       try dsimp only at k_20
       obtain rfl := Option.some.inj k_20
       exact ⟨_, rfl, F.only [1, 2, 3, 9, 10, 11, 12, 45] rfl, H.f1⟩
     ·rintro a w ⟨x20, rfl, F, H⟩
      try dsimp only at j_18 F H
      by_cases c23 : x20 = true
      ·rw [if_pos c23] at j_18
       rw [c23] at F
       refine wp_cond_true (F.ev rfl) ?_
       refine wp_skip ?_
       refine wp_seq ?_
       refine wp_block ?_
       refine wp_region_lit ?_
       refine mv F rfl fun a F => ?_
       refine mv F rfl fun a F => ?_
       refine mv F rfl fun a F => ?_
       refine mv F rfl fun a F => ?_
       obtain ⟨c24, j_18⟩ := guardO j_18
       obtain ⟨g25, o26, s27, hr, H⟩ := H.ix (⟨0, [], [], [], 0, []⟩ : law18_Op) 0 rfl (F.t 51 rfl) (F.t 52 rfl) Try.underlying22 sz35 (by decide) c24.1 c24.2
       obtain ⟨A28, c29, A30, c31, A32, c33, A34, c35, rfl, H⟩ := H.open_law18_Op 1 rfl
       refine qw F (hr _ _ _ _ _ _) fun a F => ?_
       refine qw F (r_ldA (F.t 53 rfl) (H.range 4 rfl) agg35 rfl) fun a F => ?_
       obtain ⟨⟨x36, x37, x38⟩, e39, j_18⟩ := Option.bind_eq_some_iff.1 j_18
       try dsimp only at j_18
       refine ls (call F Try.func14 (law18_do_ok (a2 := (a1.getD (x16 : Int).toNat (⟨0, [], [], [], 0, []⟩ : law18_Op))) (H.p3.p3.p3.p3) e39) rfl rfl fun v w hR a F => ?_)
       obtain ⟨g40, rfl, H⟩ := hR
       refine mv F rfl fun a F => ?_
       refine qw F (r_ex (F.t 48 rfl) rfl) fun a F => ?_
       refine qw F (r_ex (F.t 48 rfl) rfl) fun a F => ?_
       refine as_ F rfl fun a F => ?_
       refine wpList_nil ?_
       replace F := F.only [11, 1, 2, 3, 9, 10, 12] (l' := [(11, .pointer (some ⟨g40, 0, none⟩)), (1, .slice A1_ a1.length c1_), (2, .slice A2_ a2.length c2_), (3, .int .i64 a3), (9, .bool x1), (10, .pointer (some ⟨g6, 0, none⟩)), (12, .int .i64 x16)]) rfl
       refine wp_region_lit ?_
       refine mv F rfl fun a F => ?_
       refine qw F (r_add (F.t 46 rfl) (F.ev (x := .const (.int .i64 1)) rfl)) fun a F => ?_
       refine as_ F rfl fun a F => ?_
       refine wpList_nil ?_
       try dsimp only at j_18
       obtain rfl := Option.some.inj j_18
       exact ⟨_, rfl, g40, F.only [1, 2, 3, 9, 10, 11, 12] rfl, H.px5.px4.px3.px2.px1.px0⟩
      ·rw [if_neg c23] at j_18
       rw [Bool.eq_false_iff.2 c23] at F
       refine wp_cond_false (F.ev rfl) ?_
       refine wp_exit ?_
       try dsimp only at j_18
       obtain rfl := Option.some.inj j_18
       obtain rfl := u_18 _ rfl
       repeat (with_reducible refine exT ?_)
       with_reducible refine exB ?_
       exact ⟨_, rfl, F.only [2, 3, 9, 10] rfl, H.px0.fx1⟩
    ·rintro a w ⟨x18, rfl, F, H⟩
     try dsimp only at h F H
     refine rg ?_
     refine mv F rfl fun a F => ?_
     refine mv F rfl fun a F => ?_
     refine mv F rfl fun a F => ?_
     obtain ⟨x41, e42, h⟩ := Option.bind_eq_some_iff.1 h
     try dsimp only at h
     refine ls (call F Try.func24 (disk_Disk_Crash_ok (H.p0) e42) rfl rfl fun v w hR a F => ?_)
     obtain ⟨rfl, H⟩ := hR
     refine rgend ?_
     replace F := F.only [2, 3, 9, 10] (l' := [(2, .slice A2_ a2.length c2_), (3, .int .i64 a3), (9, .bool x1), (10, .pointer (some ⟨g6, 0, none⟩))]) rfl
     refine rg ?_
     refine mv F rfl fun a F => ?_
     obtain ⟨x43, e44, h⟩ := Option.bind_eq_some_iff.1 h
     try dsimp only at h
     refine ls (call F Try.func13 (store_Open_ok (H) e44) rfl rfl fun v w hR a F => ?_)
     obtain ⟨g45, rfl, H⟩ := hR
     refine as_ F rfl fun a F => ?_
     refine rgend ?_
     refine rg ?_
     refine mv F rfl fun a F => ?_
     obtain ⟨x46, e47, h⟩ := Option.bind_eq_some_iff.1 h
     try dsimp only at h
     refine ls (call F Try.func34 (disk_Disk_Pending_ok (H.f1) e47) rfl rfl fun v w hR a F => ?_)
     obtain ⟨rfl, H⟩ := hR
     refine as_ F rfl fun a F => ?_
     refine rgend ?_
     replace F := F.only [14, 13, 2, 3, 9, 10] (l' := [(14, .int .i64 x46), (13, .pointer (some ⟨g45, 0, none⟩)), (2, .slice A2_ a2.length c2_), (3, .int .i64 a3), (9, .bool x1), (10, .pointer (some ⟨g6, 0, none⟩))]) rfl
     refine rg ?_
     refine mv F rfl fun a F => ?_
     refine mv F rfl fun a F => ?_
     refine mv F rfl fun a F => ?_
     obtain ⟨x48, e49, h⟩ := Option.bind_eq_some_iff.1 h
     try dsimp only at h
     refine ls (call F Try.func24 (disk_Disk_Crash_ok (H.p0) e49) rfl rfl fun v w hR a F => ?_)
     obtain ⟨rfl, H⟩ := hR
     refine rgend ?_
     replace F := F.only [14, 13, 9, 10] (l' := [(14, .int .i64 x46), (13, .pointer (some ⟨g45, 0, none⟩)), (9, .bool x1), (10, .pointer (some ⟨g6, 0, none⟩))]) rfl
     refine rg ?_
     refine mv F rfl fun a F => ?_
     obtain ⟨x50, e51, h⟩ := Option.bind_eq_some_iff.1 h
     try dsimp only at h
     refine ls (call F Try.func13 (store_Open_ok (H) e51) rfl rfl fun v w hR a F => ?_)
     obtain ⟨g52, rfl, H⟩ := hR
     refine as_ F rfl fun a F => ?_
     refine rgend ?_
     refine wp_seq ?_
     refine rg ?_
     refine mv F rfl fun a F => ?_
     refine qw F (r_peq (F.t 72 rfl) (F.ev (x := .const (.pointer none)) rfl) Try.underlying27) fun a F => ?_
     refine mv F rfl fun a F => ?_
     refine mv F rfl fun a F => ?_
     refine qw F (r_peq (F.t 75 rfl) (F.ev (x := .const (.pointer none)) rfl) Try.underlying27) fun a F => ?_
     refine qw F (r_pickF (F.t 74 rfl) (F.t 76 rfl)) fun a F => ?_
     refine rgend ?_
     replace F := F.only [77, 15, 14, 13, 9] (l' := [(77, .bool false), (15, .pointer (some ⟨g52, 0, none⟩)), (14, .int .i64 x46), (13, .pointer (some ⟨g45, 0, none⟩)), (9, .bool x1)]) rfl
     refine wp_cond_false (F.ev rfl) ?_
     refine wp_skip ?_
     refine wp_seq ?_
     obtain ⟨o_53, k_53, h⟩ := Option.bind_eq_some_iff.1 h
     refine cut (fun a w => ∃ (x53 : Bool), x53 = o_53 ∧ Fr 113 [] [(8, .bool x53)] a ∧ Hp w0 ps (obj_store_Store g52 g6 x50 :: obj_store_Store g45 g6 x43 :: obj_disk_Disk g6 x48 :: fs) w) ?_ ?_
     ·skip
      replace H := H.drew
      have HS := H.fx2.fx1.fx0
      refine dr (fun w => Hp w0 (rd kBool A2_ c2_ a2 :: ps) fs w) _ (by kernel_rfl) ?_ (n := 36)
      refine dq 0 F rfl (by kernel_rfl) NP HS (fun w S => (r_mv (F.t 9 rfl))) fun a F => ?_
      refine dq 1 F rfl (by kernel_rfl) NP HS (fun w S => (r_mv (F.t 78 rfl))) fun a F => ?_
      by_cases c55 : x1 = true
      ·rw [if_pos c55] at k_53
       rw [c55] at F
       refine dq 2 F rfl (by kernel_rfl) NP HS (fun w S => (r_mv (F.t 14 rfl))) fun a F => ?_
       refine dq 3 F rfl (by kernel_rfl) NP HS (fun w S => (r_eq (F.t 80 rfl) (F.ev (x := .const (.int .i64 0)) rfl))) fun a F => ?_
       refine dq 4 F rfl (by kernel_rfl) NP HS (fun w S => (r_pickT (F.t 79 rfl) (F.t 81 rfl))) fun a F => ?_
       refine dq 5 F rfl (by kernel_rfl) NP HS (fun w S => (r_mv (F.t 82 rfl))) fun a F => ?_
       by_cases c56 : x46 = 0
       ·rw [if_pos c56] at k_53
        rw [decide_eq_true c56] at F
        refine dq 6 F rfl (by kernel_rfl) NP HS (fun w S => (r_mv (F.t 13 rfl))) fun a F => ?_
        refine dq 8 F rfl (by kernel_rfl) NP HS (fun w S => (r_mv (F.t 15 rfl))) fun a F => ?_
        obtain ⟨x57, e58, k_53⟩ := Option.bind_eq_some_iff.1 k_53
        try dsimp only at k_53
        refine d1 7 rfl (by kernel_rfl) (call F Try.func16 (store_Store_Has_ok (H.f1.f1.f2) e58) rfl rfl fun v w hR a F => ?_)
        obtain ⟨rfl, H⟩ := hR
        have HS := H.fx2.fx1.fx0
        refine kg _ HS (fun w S => S) ?_
        obtain ⟨x59, e60, k_53⟩ := Option.bind_eq_some_iff.1 k_53
        try dsimp only at k_53
        refine d1 9 rfl (by kernel_rfl) (call F Try.func16 (store_Store_Has_ok (H.f2.f1.f2) e60) rfl rfl fun v w hR a F => ?_)
        obtain ⟨rfl, H⟩ := hR
        have HS := H.fx2.fx1.fx0
        refine kg _ HS (fun w S => S) ?_
        refine dq 10 F rfl (by kernel_rfl) NP HS (fun w S => (r_beq (F.t 85 rfl) (F.t 87 rfl) Try.underlying4)) fun a F => ?_
        refine dq 11 F rfl (by kernel_rfl) NP HS (fun w S => (r_pickT (F.t 83 rfl) (F.t 88 rfl))) fun a F => ?_
        refine dq 12 F rfl (by kernel_rfl) NP HS (fun w S => (r_mv (F.t 89 rfl))) fun a F => ?_
        by_cases c61 : (x57 == x59) = true
        ·rw [if_pos c61] at k_53
         rw [c61] at F
         refine dq 13 F rfl (by kernel_rfl) NP HS (fun w S => (r_mv (F.t 13 rfl))) fun a F => ?_
         refine dq 15 F rfl (by kernel_rfl) NP HS (fun w S => (r_mv (F.t 15 rfl))) fun a F => ?_
         obtain ⟨x62, e63, k_53⟩ := Option.bind_eq_some_iff.1 k_53
         try dsimp only at k_53
         refine d1 14 rfl (by kernel_rfl) (call F Try.func20 (store_Store_Gen_ok (H.f2.f1.f2) e63) rfl rfl fun v w hR a F => ?_)
         obtain ⟨rfl, H⟩ := hR
         have HS := H.fx2.fx1.fx0
         refine kg _ HS (fun w S => S) ?_
         obtain ⟨x64, e65, k_53⟩ := Option.bind_eq_some_iff.1 k_53
         try dsimp only at k_53
         refine d1 16 rfl (by kernel_rfl) (call F Try.func20 (store_Store_Gen_ok (H.f2.f1.f2) e65) rfl rfl fun v w hR a F => ?_)
         obtain ⟨rfl, H⟩ := hR
         have HS := H.fx2.fx1.fx0
         refine kg _ HS (fun w S => S) ?_
         refine dq 17 F rfl (by kernel_rfl) NP HS (fun w S => (r_eq (F.t 92 rfl) (F.t 94 rfl))) fun a F => ?_
         refine dq 18 F rfl (by kernel_rfl) NP HS (fun w S => (r_pickT (F.t 90 rfl) (F.t 95 rfl))) fun a F => ?_
         refine dq 19 F rfl (by kernel_rfl) NP HS (fun w S => (r_mv (F.t 96 rfl))) fun a F => ?_
         by_cases c66 : x62 = x64
         ·rw [if_pos c66] at k_53
          rw [decide_eq_true c66] at F
          refine dq 20 F rfl (by kernel_rfl) NP HS (fun w S => (r_mv (F.t 13 rfl))) fun a F => ?_
          refine dq 23 F rfl (by kernel_rfl) NP HS (fun w S => (r_mv (F.t 15 rfl))) fun a F => ?_
          obtain ⟨x67, e68, k_53⟩ := Option.bind_eq_some_iff.1 k_53
          try dsimp only at k_53
          refine d1 21 rfl (by kernel_rfl) (call F Try.func17 (store_Store_State_ok (H.f2.f1.f2) e68) rfl rfl fun v w hR a F => ?_)
          obtain ⟨A69, c70, rfl, H⟩ := hR
          have HS := H.fx3.fx2.fx1.fx0
          refine kg _ HS (fun w S => S) ?_
          replace H := (H).freeze
          have hb71 := H.bytes 0 rfl
          have HS := H.fx2.fx1.fx0
          refine dmoreH HS (fun w S => S.px0) ?_
          refine dq 22 F rfl (by kernel_rfl) NP HS (fun w S => (S.str 0 rfl (F.t 99 rfl) Try.underlying29 Try.underlying5 Try.underlying9)) fun a F => ?_
          obtain ⟨x72, e73, k_53⟩ := Option.bind_eq_some_iff.1 k_53
          try dsimp only at k_53
          refine d1 24 rfl (by kernel_rfl) (call F Try.func17 (store_Store_State_ok (H.f2.f1.f2) e73) rfl rfl fun v w hR a F => ?_)
          obtain ⟨A74, c75, rfl, H⟩ := hR
          have HS := H.fx3.fx2.fx1.fx0
          refine kg _ HS (fun w S => S) ?_
          replace H := (H).freeze
          have hb76 := H.bytes 0 rfl
          have HS := H.fx2.fx1.fx0
          refine dmoreH HS (fun w S => S.px0) ?_
          refine dq 25 F rfl (by kernel_rfl) NP HS (fun w S => (S.str 0 rfl (F.t 102 rfl) Try.underlying29 Try.underlying5 Try.underlying9)) fun a F => ?_
          refine dq 26 F rfl (by kernel_rfl) NP HS (fun w S => (r_seq (F.t 100 rfl) (F.t 103 rfl) hb71 hb76)) fun a F => ?_
          refine dq 27 F rfl (by kernel_rfl) NP HS (fun w S => (r_pickT (F.t 97 rfl) (F.t 104 rfl))) fun a F => ?_
          refine dq 28 F rfl (by kernel_rfl) NP HS (fun w S => (r_mv (F.t 105 rfl))) fun a F => ?_
          by_cases c77 : x67 = x72
          ·rw [if_pos c77] at k_53
           rw [decide_eq_true c77] at F
           refine dq 29 F rfl (by kernel_rfl) NP HS (fun w S => (r_mv (F.t 13 rfl))) fun a F => ?_
           refine dq 31 F rfl (by kernel_rfl) NP HS (fun w S => (r_mv (F.t 15 rfl))) fun a F => ?_
           obtain ⟨x78, e79, k_53⟩ := Option.bind_eq_some_iff.1 k_53
           try dsimp only at k_53
           refine d1 30 rfl (by kernel_rfl) (call F Try.func15 (store_Store_Entries_ok (H.f2.f1.f2) e79) rfl rfl fun v w hR a F => ?_)
           obtain ⟨A80, c81, rfl, H⟩ := hR
           have HS := H.fx3.fx2.fx1.fx0
           refine kg _ HS (fun w S => S) ?_
           obtain ⟨x82, e83, k_53⟩ := Option.bind_eq_some_iff.1 k_53
           try dsimp only at k_53
           refine d1 32 rfl (by kernel_rfl) (call F Try.func15 (store_Store_Entries_ok (H.f3.f2.f2.f3) e83) rfl rfl fun v w hR a F => ?_)
           obtain ⟨A84, c85, rfl, H⟩ := hR
           have HS := H.fx4.fx3.fx2.fx1.fx0
           refine kg _ HS (fun w S => S) ?_
           replace H := (H.f4.f4.f3.f3.f4).freeze
           replace H := (H).freeze
           obtain ⟨x86, e87, k_53⟩ := Option.bind_eq_some_iff.1 k_53
           try dsimp only at k_53
           refine d1 33 rfl (by kernel_rfl) (call F Try.func19 (ref17_SameRows_ok (H.p0.p2) e87) rfl rfl fun v w hR a F => ?_)
           obtain ⟨rfl, H⟩ := hR
           have HS := H.fx2.fx1.fx0
           refine kg _ HS (fun w S => S.px1.px0) ?_
           refine dq 34 F rfl (by kernel_rfl) NP HS (fun w S => (r_pickT (F.t 106 rfl) (F.t 111 rfl))) fun a F => ?_
           refine dq 35 F rfl (by kernel_rfl) NP HS (fun w S => (r_as (F.t 112 rfl))) fun a F => ?_
           refine ddone (by kernel_rfl) ?_
           replace F := F.only [8] (l' := [(8, .bool x86)]) rfl
           try dsimp only at k_53
           obtain rfl := Option.some.inj k_53
           exact ⟨_, rfl, F.only [8] rfl, H.px4.px3.px2.px1.px0⟩
          ·rw [if_neg c77] at k_53
           rw [decide_eq_false c77] at F
           refine doff 29 F rfl (by kernel_rfl) NP HS fun a F => ?_
           refine doff 30 F rfl (by kernel_rfl) NP HS fun a F => ?_
           refine doff 31 F rfl (by kernel_rfl) NP HS fun a F => ?_
           refine doff 32 F rfl (by kernel_rfl) NP HS fun a F => ?_
           refine doff 33 F rfl (by kernel_rfl) NP HS fun a F => ?_
           refine dq 34 F rfl (by kernel_rfl) NP HS (fun w S => (r_pickF (F.t 106 rfl) (F.ev (x := .const (.bool false)) rfl))) fun a F => ?_
           refine dq 35 F rfl (by kernel_rfl) NP HS (fun w S => (r_as (F.t 112 rfl))) fun a F => ?_
           refine ddone (by kernel_rfl) ?_
           replace F := F.only [8] (l' := [(8, .bool false)]) rfl
           try dsimp only at k_53
           obtain rfl := Option.some.inj k_53
           exact ⟨_, rfl, F.only [8] rfl, H.px2.px1.px0⟩
         ·rw [if_neg c66] at k_53
          rw [decide_eq_false c66] at F
          refine doff 20 F rfl (by kernel_rfl) NP HS fun a F => ?_
          refine doff 21 F rfl (by kernel_rfl) NP HS fun a F => ?_
          refine doff 22 F rfl (by kernel_rfl) NP HS fun a F => ?_
          refine doff 23 F rfl (by kernel_rfl) NP HS fun a F => ?_
          refine doff 24 F rfl (by kernel_rfl) NP HS fun a F => ?_
          refine doff 25 F rfl (by kernel_rfl) NP HS fun a F => ?_
          refine doff 26 F rfl (by kernel_rfl) NP HS fun a F => ?_
          refine dq 27 F rfl (by kernel_rfl) NP HS (fun w S => (r_pickF (F.t 97 rfl) (F.ev (x := .const (.bool false)) rfl))) fun a F => ?_
          refine dq 28 F rfl (by kernel_rfl) NP HS (fun w S => (r_mv (F.t 105 rfl))) fun a F => ?_
          refine doff 29 F rfl (by kernel_rfl) NP HS fun a F => ?_
          refine doff 30 F rfl (by kernel_rfl) NP HS fun a F => ?_
          refine doff 31 F rfl (by kernel_rfl) NP HS fun a F => ?_
          refine doff 32 F rfl (by kernel_rfl) NP HS fun a F => ?_
          refine doff 33 F rfl (by kernel_rfl) NP HS fun a F => ?_
          refine dq 34 F rfl (by kernel_rfl) NP HS (fun w S => (r_pickF (F.t 106 rfl) (F.ev (x := .const (.bool false)) rfl))) fun a F => ?_
          refine dq 35 F rfl (by kernel_rfl) NP HS (fun w S => (r_as (F.t 112 rfl))) fun a F => ?_
          refine ddone (by kernel_rfl) ?_
          replace F := F.only [8] (l' := [(8, .bool false)]) rfl
          try dsimp only at k_53
          obtain rfl := Option.some.inj k_53
          exact ⟨_, rfl, F.only [8] rfl, H.px0⟩
        ·rw [if_neg c61] at k_53
         rw [Bool.eq_false_iff.2 c61] at F
         refine doff 13 F rfl (by kernel_rfl) NP HS fun a F => ?_
         refine doff 14 F rfl (by kernel_rfl) NP HS fun a F => ?_
         refine doff 15 F rfl (by kernel_rfl) NP HS fun a F => ?_
         refine doff 16 F rfl (by kernel_rfl) NP HS fun a F => ?_
         refine doff 17 F rfl (by kernel_rfl) NP HS fun a F => ?_
         refine dq 18 F rfl (by kernel_rfl) NP HS (fun w S => (r_pickF (F.t 90 rfl) (F.ev (x := .const (.bool false)) rfl))) fun a F => ?_
         refine dq 19 F rfl (by kernel_rfl) NP HS (fun w S => (r_mv (F.t 96 rfl))) fun a F => ?_
         refine doff 20 F rfl (by kernel_rfl) NP HS fun a F => ?_
         refine doff 21 F rfl (by kernel_rfl) NP HS fun a F => ?_
         refine doff 22 F rfl (by kernel_rfl) NP HS fun a F => ?_
         refine doff 23 F rfl (by kernel_rfl) NP HS fun a F => ?_
         refine doff 24 F rfl (by kernel_rfl) NP HS fun a F => ?_
         refine doff 25 F rfl (by kernel_rfl) NP HS fun a F => ?_
         refine doff 26 F rfl (by kernel_rfl) NP HS fun a F => ?_
         refine dq 27 F rfl (by kernel_rfl) NP HS (fun w S => (r_pickF (F.t 97 rfl) (F.ev (x := .const (.bool false)) rfl))) fun a F => ?_
         refine dq 28 F rfl (by kernel_rfl) NP HS (fun w S => (r_mv (F.t 105 rfl))) fun a F => ?_
         refine doff 29 F rfl (by kernel_rfl) NP HS fun a F => ?_
         refine doff 30 F rfl (by kernel_rfl) NP HS fun a F => ?_
         refine doff 31 F rfl (by kernel_rfl) NP HS fun a F => ?_
         refine doff 32 F rfl (by kernel_rfl) NP HS fun a F => ?_
         refine doff 33 F rfl (by kernel_rfl) NP HS fun a F => ?_
         refine dq 34 F rfl (by kernel_rfl) NP HS (fun w S => (r_pickF (F.t 106 rfl) (F.ev (x := .const (.bool false)) rfl))) fun a F => ?_
         refine dq 35 F rfl (by kernel_rfl) NP HS (fun w S => (r_as (F.t 112 rfl))) fun a F => ?_
         refine ddone (by kernel_rfl) ?_
         replace F := F.only [8] (l' := [(8, .bool false)]) rfl
         try dsimp only at k_53
         obtain rfl := Option.some.inj k_53
         exact ⟨_, rfl, F.only [8] rfl, H.px0⟩
       ·rw [if_neg c56] at k_53
        rw [decide_eq_false c56] at F
        refine doff 6 F rfl (by kernel_rfl) NP HS fun a F => ?_
        refine doff 7 F rfl (by kernel_rfl) NP HS fun a F => ?_
        refine doff 8 F rfl (by kernel_rfl) NP HS fun a F => ?_
        refine doff 9 F rfl (by kernel_rfl) NP HS fun a F => ?_
        refine doff 10 F rfl (by kernel_rfl) NP HS fun a F => ?_
        refine dq 11 F rfl (by kernel_rfl) NP HS (fun w S => (r_pickF (F.t 83 rfl) (F.ev (x := .const (.bool false)) rfl))) fun a F => ?_
        refine dq 12 F rfl (by kernel_rfl) NP HS (fun w S => (r_mv (F.t 89 rfl))) fun a F => ?_
        refine doff 13 F rfl (by kernel_rfl) NP HS fun a F => ?_
        refine doff 14 F rfl (by kernel_rfl) NP HS fun a F => ?_
        refine doff 15 F rfl (by kernel_rfl) NP HS fun a F => ?_
        refine doff 16 F rfl (by kernel_rfl) NP HS fun a F => ?_
        refine doff 17 F rfl (by kernel_rfl) NP HS fun a F => ?_
        refine dq 18 F rfl (by kernel_rfl) NP HS (fun w S => (r_pickF (F.t 90 rfl) (F.ev (x := .const (.bool false)) rfl))) fun a F => ?_
        refine dq 19 F rfl (by kernel_rfl) NP HS (fun w S => (r_mv (F.t 96 rfl))) fun a F => ?_
        refine doff 20 F rfl (by kernel_rfl) NP HS fun a F => ?_
        refine doff 21 F rfl (by kernel_rfl) NP HS fun a F => ?_
        refine doff 22 F rfl (by kernel_rfl) NP HS fun a F => ?_
        refine doff 23 F rfl (by kernel_rfl) NP HS fun a F => ?_
        refine doff 24 F rfl (by kernel_rfl) NP HS fun a F => ?_
        refine doff 25 F rfl (by kernel_rfl) NP HS fun a F => ?_
        refine doff 26 F rfl (by kernel_rfl) NP HS fun a F => ?_
        refine dq 27 F rfl (by kernel_rfl) NP HS (fun w S => (r_pickF (F.t 97 rfl) (F.ev (x := .const (.bool false)) rfl))) fun a F => ?_
        refine dq 28 F rfl (by kernel_rfl) NP HS (fun w S => (r_mv (F.t 105 rfl))) fun a F => ?_
        refine doff 29 F rfl (by kernel_rfl) NP HS fun a F => ?_
        refine doff 30 F rfl (by kernel_rfl) NP HS fun a F => ?_
        refine doff 31 F rfl (by kernel_rfl) NP HS fun a F => ?_
        refine doff 32 F rfl (by kernel_rfl) NP HS fun a F => ?_
        refine doff 33 F rfl (by kernel_rfl) NP HS fun a F => ?_
        refine dq 34 F rfl (by kernel_rfl) NP HS (fun w S => (r_pickF (F.t 106 rfl) (F.ev (x := .const (.bool false)) rfl))) fun a F => ?_
        refine dq 35 F rfl (by kernel_rfl) NP HS (fun w S => (r_as (F.t 112 rfl))) fun a F => ?_
        refine ddone (by kernel_rfl) ?_
        replace F := F.only [8] (l' := [(8, .bool false)]) rfl
        try dsimp only at k_53
        obtain rfl := Option.some.inj k_53
        exact ⟨_, rfl, F.only [8] rfl, H.px0.f1.f2.f2⟩
      ·rw [if_neg c55] at k_53
       rw [Bool.eq_false_iff.2 c55] at F
       refine doff 2 F rfl (by kernel_rfl) NP HS fun a F => ?_
       refine doff 3 F rfl (by kernel_rfl) NP HS fun a F => ?_
       refine dq 4 F rfl (by kernel_rfl) NP HS (fun w S => (r_pickF (F.t 79 rfl) (F.ev (x := .const (.bool false)) rfl))) fun a F => ?_
       refine dq 5 F rfl (by kernel_rfl) NP HS (fun w S => (r_mv (F.t 82 rfl))) fun a F => ?_
       refine doff 6 F rfl (by kernel_rfl) NP HS fun a F => ?_
       refine doff 7 F rfl (by kernel_rfl) NP HS fun a F => ?_
       refine doff 8 F rfl (by kernel_rfl) NP HS fun a F => ?_
       refine doff 9 F rfl (by kernel_rfl) NP HS fun a F => ?_
       refine doff 10 F rfl (by kernel_rfl) NP HS fun a F => ?_
       refine dq 11 F rfl (by kernel_rfl) NP HS (fun w S => (r_pickF (F.t 83 rfl) (F.ev (x := .const (.bool false)) rfl))) fun a F => ?_
       refine dq 12 F rfl (by kernel_rfl) NP HS (fun w S => (r_mv (F.t 89 rfl))) fun a F => ?_
       refine doff 13 F rfl (by kernel_rfl) NP HS fun a F => ?_
       refine doff 14 F rfl (by kernel_rfl) NP HS fun a F => ?_
       refine doff 15 F rfl (by kernel_rfl) NP HS fun a F => ?_
       refine doff 16 F rfl (by kernel_rfl) NP HS fun a F => ?_
       refine doff 17 F rfl (by kernel_rfl) NP HS fun a F => ?_
       refine dq 18 F rfl (by kernel_rfl) NP HS (fun w S => (r_pickF (F.t 90 rfl) (F.ev (x := .const (.bool false)) rfl))) fun a F => ?_
       refine dq 19 F rfl (by kernel_rfl) NP HS (fun w S => (r_mv (F.t 96 rfl))) fun a F => ?_
       refine doff 20 F rfl (by kernel_rfl) NP HS fun a F => ?_
       refine doff 21 F rfl (by kernel_rfl) NP HS fun a F => ?_
       refine doff 22 F rfl (by kernel_rfl) NP HS fun a F => ?_
       refine doff 23 F rfl (by kernel_rfl) NP HS fun a F => ?_
       refine doff 24 F rfl (by kernel_rfl) NP HS fun a F => ?_
       refine doff 25 F rfl (by kernel_rfl) NP HS fun a F => ?_
       refine doff 26 F rfl (by kernel_rfl) NP HS fun a F => ?_
       refine dq 27 F rfl (by kernel_rfl) NP HS (fun w S => (r_pickF (F.t 97 rfl) (F.ev (x := .const (.bool false)) rfl))) fun a F => ?_
       refine dq 28 F rfl (by kernel_rfl) NP HS (fun w S => (r_mv (F.t 105 rfl))) fun a F => ?_
       refine doff 29 F rfl (by kernel_rfl) NP HS fun a F => ?_
       refine doff 30 F rfl (by kernel_rfl) NP HS fun a F => ?_
       refine doff 31 F rfl (by kernel_rfl) NP HS fun a F => ?_
       refine doff 32 F rfl (by kernel_rfl) NP HS fun a F => ?_
       refine doff 33 F rfl (by kernel_rfl) NP HS fun a F => ?_
       refine dq 34 F rfl (by kernel_rfl) NP HS (fun w S => (r_pickF (F.t 106 rfl) (F.ev (x := .const (.bool false)) rfl))) fun a F => ?_
       refine dq 35 F rfl (by kernel_rfl) NP HS (fun w S => (r_as (F.t 112 rfl))) fun a F => ?_
       refine ddone (by kernel_rfl) ?_
       replace F := F.only [8] (l' := [(8, .bool false)]) rfl
       try dsimp only at k_53
       obtain rfl := Option.some.inj k_53
       exact ⟨_, rfl, F.only [8] rfl, H.px0.f1.f2.f2⟩
     ·rintro a w ⟨x53, rfl, F, H⟩
      try dsimp only at h F H
      refine wp_ret ?_
      try dsimp only at h
      obtain rfl := Option.some.inj h
      exact RET _ _ (ret1 F rfl rfl ⟨_, rfl, rfl, H.fx2.fx1.fx0⟩)
end Go.Proofs.Ytpmkpiffbdcflaa
