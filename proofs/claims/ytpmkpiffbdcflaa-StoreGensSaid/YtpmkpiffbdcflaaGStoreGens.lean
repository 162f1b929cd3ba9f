/- What the functions compute. Printed by wip/gen. -/
import Derived.Test.YtpmkpiffbdcflaaGL
set_option linter.unusedVariables false
set_option linter.unusedSimpArgs false
namespace Go.Proofs.Ytpmkpiffbdcflaa
open Go Go.RowKit
def law18_StoreGens_b0 (a1 : List law18_Op) : (store_Store × Int × Int × disk_Disk) → Option (store_Store × Int × Int × disk_Disk ⊕ ((store_Store × disk_Disk) ⊕ Bool))
 | (x14, x15, x16, x17) => (((if x16 < (a1.length : Int) then some true else some false) : Option (Bool)).bind fun x22 => (if x22 = true then (if 0 ≤ x16 ∧ x16 < (a1.length : Int) then ((law18_do_f x17 x14 ((a1.getD (x16 : Int).toNat (⟨0, [], [], [], 0, []⟩ : law18_Op)))).bind fun (x38, x39, x40) => (((if 0 ≤ x16 ∧ x16 < (a1.length : Int) then (if ((a1.getD (x16 : Int).toNat (⟨0, [], [], [], 0, []⟩ : law18_Op)).What) < 2 then some ((decide (x39 = 0))) else (if 0 ≤ x16 ∧ x16 < (a1.length : Int) then (if ((a1.getD (x16 : Int).toNat (⟨0, [], [], [], 0, []⟩ : law18_Op)).What) > 7 then some ((decide (x39 = 0))) else some false) else none)) else none) : Option (Bool)).bind fun x43 => (((if x43 = true then ((store_Store_Gen_f x38).bind fun x74 => (if x74 ≤ x15 then some (.inr false) else ((store_Store_Gen_f x38).bind fun x77 => some (.inl x77)))) else some (.inl x15)) : Option (Int ⊕ Bool)).bind fun q => match q with | .inl x71 => some (.inl (x38, x71, IntKind.i64.wrap (x16 + 1), x40)) | .inr r => some (.inr (.inr r))))) else none) else some (.inr (.inl (x14, x17)))))
def law18_StoreGens_f (a0 : Int) (a1 : List law18_Op) : Option (Bool) :=
 ((law18_head_f).bind fun x1 => ((disk_New_f (IntKind.i64.wrap a0)).bind fun x3 => match x3 with | none => some false | some x5 => ((law18_Great_f a1).bind fun x7 => (if x7 = true then some x1 else ((store_Open_f x5).bind fun x10 => ((lp (law18_StoreGens_b0 a1) (x10, 0, 0, x5)).bind fun q => match q with | .inl (x19, x20) => (((if x1 = true then some true else some false) : Option (Bool)).bind fun x79 => some x79) | .inr r => some r))))))
set_option maxHeartbeats 4000000 in
set_option maxRecDepth 20000 in
theorem law18_StoreGens_ok {w0 w : World} {ps : List PF} {fs : List SF} {a0 : Int} {a1 : List law18_Op} {A1_ : Option Addr} {c1_ : Nat} {r0 : Bool} (H : Hp w0 (rd k_law18_Op A1_ c1_ a1 :: ps) fs w) (h : law18_StoreGens_f a0 a1 = some r0) (ha0 : 0 ≤ a0 ∧ a0 < 256) :
  Calls Try.prog 4 [.int .u8 a0, .slice A1_ a1.length c1_].toArray w fun e w' => ∃ v, e = .returned v ∧ v = .bool r0 ∧ Hp w0 ps fs w' := by
 refine enter [.int .u8 a0, .slice A1_ a1.length c1_] 81 Try.func4 fun Q a NP RET NRM F => ?_
 replace NP : ∀ c a w, ¬ Q (.panic c) a w := fun c a w h => by rcases NP c a w h with h | ⟨w, v, h, _⟩ <;> cases h
 unfold law18_StoreGens_f at h
 refine rg ?_
 refine as_ F (v := .bool false) rfl fun a F => ?_
 refine rgend ?_
 refine rg ?_
 obtain ⟨x1, e2, h⟩ := Option.bind_eq_some_iff.1 h
 try dsimp only at h
 refine ls (call F Try.func10 (law18_head_ok (H) e2) rfl rfl fun v w hR a F => ?_)
 obtain ⟨rfl, H⟩ := hR
 refine as_ F rfl fun a F => ?_
 refine rgend ?_
 refine rg ?_
 refine mv F rfl fun a F => ?_
 refine qw F (r_ci (F.t 13 rfl) Try.underlying3 Try.underlying5) fun a F => ?_
 obtain ⟨x3, e4, h⟩ := Option.bind_eq_some_iff.1 h
 try dsimp only at h
 rcases x3 with _ | x5
 ·try dsimp only at h
  refine ls (call F Try.func11 (disk_New_ok (H) e4) rfl rfl fun v w hR a F => ?_)
  obtain ⟨rfl, H⟩ := hR
  refine as_ F rfl fun a F => ?_
  refine rgend ?_
  replace F := F.only [6, 5, 1] (l' := [(6, .pointer none), (5, .bool x1), (1, .slice A1_ a1.length c1_)]) rfl
  refine wp_seq ?_
  refine rg ?_
  refine mv F rfl fun a F => ?_
  refine qw F (r_peq0 (F.t 16 rfl) (F.ev (x := .const (.pointer none)) rfl) Try.underlying24) fun a F => ?_
  refine mv F rfl fun a F => ?_
  refine of_ F fun a F => ?_
  refine of_ F fun a F => ?_
  refine qw F (r_pickT (F.t 18 rfl) (F.ev (x := .const (.bool true)) rfl)) fun a F => ?_
  refine rgend ?_
  replace F := F.only [21, 6, 5, 1] (l' := [(21, .bool true), (6, .pointer none), (5, .bool x1), (1, .slice A1_ a1.length c1_)]) rfl
  refine wp_cond_true (F.ev rfl) ?_
  refine wp_seq ?_
  refine wp_region_lit ?_
  refine mv F rfl fun a F => ?_
  refine qw F (r_pne0 (F.t 22 rfl) (F.ev (x := .const (.pointer none)) rfl) Try.underlying24) fun a F => ?_
  refine mv F rfl fun a F => ?_
  refine of_ F fun a F => ?_
  refine qw F (r_pickF (F.t 24 rfl) (F.ev (x := .const (.bool false)) rfl)) fun a F => ?_
  refine as_ F rfl fun a F => ?_
  refine wpList_nil ?_
  replace F := F.only [4] (l' := [(4, .bool false)]) rfl
  refine wp_ret ?_
  try dsimp only at h
  obtain rfl := Option.some.inj h
  exact RET _ _ (ret1 F rfl rfl ⟨_, rfl, rfl, H.px0⟩)
 ·try dsimp only at h
  refine ls (call F Try.func11 (disk_New_ok (H) e4) rfl rfl fun v w hR a F => ?_)
  obtain ⟨g6, rfl, H⟩ := hR
  refine as_ F rfl fun a F => ?_
  refine rgend ?_
  replace F := F.only [6, 5, 1] (l' := [(6, .pointer (some ⟨g6, 0, none⟩)), (5, .bool x1), (1, .slice A1_ a1.length c1_)]) rfl
  refine wp_seq ?_
  refine rg ?_
  refine mv F rfl fun a F => ?_
  refine qw F (r_peq (F.t 16 rfl) (F.ev (x := .const (.pointer none)) rfl) Try.underlying24) fun a F => ?_
  refine mv F rfl fun a F => ?_
  refine mv F rfl fun a F => ?_
  obtain ⟨x7, e8, h⟩ := Option.bind_eq_some_iff.1 h
  try dsimp only at h
  refine ls (call F Try.func12 (law18_Great_ok (H.p0) e8) rfl rfl fun v w hR a F => ?_)
  obtain ⟨rfl, H⟩ := hR
  refine qw F (r_pickF (F.t 18 rfl) (F.t 20 rfl)) fun a F => ?_
  refine rgend ?_
  replace F := F.only [21, 6, 5, 1] (l' := [(21, .bool x7), (6, .pointer (some ⟨g6, 0, none⟩)), (5, .bool x1), (1, .slice A1_ a1.length c1_)]) rfl
  by_cases c9 : x7 = true
  ·rw [if_pos c9] at h
   rw [c9] at F
   refine wp_cond_true (F.ev rfl) ?_
   refine wp_seq ?_
   refine wp_region_lit ?_
   refine mv F rfl fun a F => ?_
   refine qw F (r_pne (F.t 22 rfl) (F.ev (x := .const (.pointer none)) rfl) Try.underlying24) fun a F => ?_
   refine mv F rfl fun a F => ?_
   refine mv F rfl fun a F => ?_
   refine qw F (r_pickT (F.t 24 rfl) (F.t 25 rfl)) fun a F => ?_
   refine as_ F rfl fun a F => ?_
   refine wpList_nil ?_
   replace F := F.only [4] (l' := [(4, .bool x1)]) rfl
   refine wp_ret ?_
   try dsimp only at h
   obtain rfl := Option.some.inj h
   exact RET _ _ (ret1 F rfl rfl ⟨_, rfl, rfl, H.px0.fx0⟩)
  ·rw [if_neg c9] at h
   rw [Bool.eq_false_iff.2 c9] at F
   refine wp_cond_false (F.ev rfl) ?_
   refine wp_skip ?_
   refine rg ?_
   refine mv F rfl fun a F => ?_
   obtain ⟨x10, e11, h⟩ := Option.bind_eq_some_iff.1 h
   try dsimp only at h
   refine ls (call F Try.func13 (store_Open_ok (H) e11) rfl rfl fun v w hR a F => ?_)
   obtain ⟨g12, rfl, H⟩ := hR
   refine as_ F rfl fun a F => ?_
   refine rgend ?_
   refine rg ?_
   refine as_ F (v := .int .i64 0) rfl fun a F => ?_
   refine rgend ?_
   refine wp_seq ?_
   refine rg ?_
   refine as_ F (v := .int .i64 0) rfl fun a F => ?_
   refine rgend ?_
   obtain ⟨o_20, k_20, h⟩ := Option.bind_eq_some_iff.1 h
   refine cut (fun a w => ∃ (x19 : store_Store) (x20 : disk_Disk), Sum.inl (x19, x20) = o_20 ∧ ∃ (g18 : Nat), Fr 81 [] [(5, .bool x1), (7, .pointer (some ⟨g18, 0, none⟩))] a ∧ Hp w0 ps (obj_store_Store g18 g6 x19 :: obj_disk_Disk g6 x20 :: fs) w) (wp_block ?_) ?_
   ·refine wloop (law18_StoreGens_b0 a1) (fun (s : store_Store × Int × Int × disk_Disk) a w => ∃ (g13 : Nat), Fr 81 [] [(1, .slice A1_ a1.length c1_), (5, .bool x1), (6, .pointer (some ⟨g6, 0, none⟩)), (7, .pointer (some ⟨g13, 0, none⟩)), (8, .int .i64 s.2.1), (9, .int .i64 s.2.2.1)] a ∧ Hp w0 (rd k_law18_Op A1_ c1_ a1 :: ps) (obj_store_Store g13 g6 s.1 :: obj_disk_Disk g6 s.2.2.2 :: fs) w) k_20 ⟨g12, F.only [1, 5, 6, 7, 8, 9] rfl, H⟩ ?_
    rintro ⟨x14, x15, x16, x17⟩ a w q_20 j_20 u_20 ⟨g13, F, H⟩
    unfold law18_StoreGens_b0 at j_20
    try dsimp only at j_20 F H
    refine wp_seq ?_
    refine wp_seq ?_
    obtain ⟨o_22, k_22, j_20⟩ := Option.bind_eq_some_iff.1 j_20
    refine cut (fun a w => ∃ (x22 : Bool), x22 = o_22 ∧ Fr 81 [] [(1, .slice A1_ a1.length c1_), (5, .bool x1), (6, .pointer (some ⟨g6, 0, none⟩)), (7, .pointer (some ⟨g13, 0, none⟩)), (8, .int .i64 x15), (9, .int .i64 x16), (36, .bool x22)] a ∧ Hp w0 (rd k_law18_Op A1_ c1_ a1 :: ps) (obj_store_Store g13 g6 x14 :: obj_disk_Disk g6 x17 :: fs) w) ?_ ?_
    ·skip
     refine wp_region_lit ?_
     refine mv F rfl fun a F => ?_
     refine mv F rfl fun a F => ?_
     refine qw F (r_len (F.t 30 rfl) Try.underlying22) fun a F => ?_
     refine qw F (r_lt (F.t 29 rfl) (F.t 31 rfl)) fun a F => ?_
     refine mv F rfl fun a F => ?_
     by_cases c24 : x16 < (a1.length : Int)
     ·rw [if_pos c24] at k_22
      rw [decide_eq_true c24] at F
      refine mv F rfl fun a F => ?_
      refine qw F (r_pne (F.t 34 rfl) (F.ev (x := .const (.pointer none)) rfl) Try.underlying27) fun a F => ?_
      refine qw F (r_pickT (F.t 33 rfl) (F.t 35 rfl)) fun a F => ?_
      refine wpList_nil ?_
      replace F := F.only [36, 1, 5, 6, 7, 8, 9] (l' := [(36, .bool true), (1, .slice A1_ a1.length c1_), (5, .bool x1), (6, .pointer (some ⟨g6, 0, none⟩)), (7, .pointer (some ⟨g13, 0, none⟩)), (8, .int .i64 x15), (9, .int .i64 x16)]) rfl
      try dsimp only at k_22
      obtain rfl := Option.some.inj k_22
      exact ⟨_, rfl, F.only [1, 5, 6, 7, 8, 9, 36] rfl, H⟩
     ·rw [if_neg c24] at k_22
      rw [decide_eq_false c24] at F
      refine of_ F fun a F => ?_
      refine of_ F fun a F => ?_
      refine qw F (r_pickF (F.t 33 rfl) (F.ev (x := .const (.bool false)) rfl)) fun a F => ?_
      refine wpList_nil ?_
      replace F := F.only [36, 1, 5, 6, 7, 8, 9] (l' := [(36, .bool false), (1, .slice A1_ a1.length c1_), (5, .bool x1), (6, .pointer (some ⟨g6, 0, none⟩)), (7, .pointer (some ⟨g13, 0, none⟩)), (8, .int .i64 x15), (9, .int .i64 x16)]) rfl
      try dsimp only at k_22
      obtain rfl := Option.some.inj k_22
      exact ⟨_, rfl, F.only [1, 5, 6, 7, 8, 9, 36] rfl, H⟩
    ·rintro a w ⟨x22, rfl, F, H⟩
     try dsimp only at j_20 F H
     by_cases c25 : x22 = true
     ·rw [if_pos c25] at j_20
      rw [c25] at F
      refine wp_cond_true (F.ev rfl) ?_
      refine wp_skip ?_
      refine wp_seq ?_
      refine wp_block ?_
      refine rg ?_
      refine mv F rfl fun a F => ?_
      refine mv F rfl fun a F => ?_
      refine mv F rfl fun a F => ?_
      refine mv F rfl fun a F => ?_
      obtain ⟨c26, j_20⟩ := guardO j_20
      obtain ⟨g27, o28, s29, hr, H⟩ := H.ix (⟨0, [], [], [], 0, []⟩ : law18_Op) 0 rfl (F.t 42 rfl) (F.t 43 rfl) Try.underlying22 sz35 (by decide) c26.1 c26.2
      obtain ⟨A30, c31, A32, c33, A34, c35, A36, c37, rfl, H⟩ := H.open_law18_Op 1 rfl
      refine qw F (hr _ _ _ _ _ _) fun a F => ?_
      refine qw F (r_ldA (F.t 44 rfl) (H.range 4 rfl) agg35 rfl) fun a F => ?_
      obtain ⟨⟨x38, x39, x40⟩, e41, j_20⟩ := Option.bind_eq_some_iff.1 j_20
      try dsimp only at j_20
      refine ls (call F Try.func14 (law18_do_ok (a2 := (a1.getD (x16 : Int).toNat (⟨0, [], [], [], 0, []⟩ : law18_Op))) (H.p3.p3.p3.p3.f1) e41) rfl rfl fun v w hR a F => ?_)
      obtain ⟨g42, rfl, H⟩ := hR
      refine mv F rfl fun a F => ?_
      refine qw F (r_ex (F.t 39 rfl) rfl) fun a F => ?_
      refine qw F (r_ex (F.t 39 rfl) rfl) fun a F => ?_
      refine as_ F rfl fun a F => ?_
      refine as_ F rfl fun a F => ?_
      refine rgend ?_
      replace F := F.only [11, 10, 1, 5, 6, 8, 9] (l' := [(11, .int .i64 x39), (10, .pointer (some ⟨g42, 0, none⟩)), (1, .slice A1_ a1.length c1_), (5, .bool x1), (6, .pointer (some ⟨g6, 0, none⟩)), (8, .int .i64 x15), (9, .int .i64 x16)]) rfl
      refine wp_seq ?_
      refine rg ?_
      refine mv F rfl fun a F => ?_
      refine qw F (r_peq (F.t 49 rfl) (F.ev (x := .const (.pointer none)) rfl) Try.underlying27) fun a F => ?_
      refine rgend ?_
      refine wp_cond_false (F.ev rfl) ?_
      refine wp_skip ?_
      refine rg ?_
      refine mv F rfl fun a F => ?_
      refine as_ F rfl fun a F => ?_
      refine rgend ?_
      replace F := F.only [7, 11, 1, 5, 6, 8, 9] (l' := [(7, .pointer (some ⟨g42, 0, none⟩)), (11, .int .i64 x39), (1, .slice A1_ a1.length c1_), (5, .bool x1), (6, .pointer (some ⟨g6, 0, none⟩)), (8, .int .i64 x15), (9, .int .i64 x16)]) rfl
      refine wp_seq ?_
      obtain ⟨o_43, k_43, j_20⟩ := Option.bind_eq_some_iff.1 j_20
      refine cut (fun a w => ∃ (x43 : Bool), x43 = o_43 ∧ Fr 81 [] [(1, .slice A1_ a1.length c1_), (5, .bool x1), (6, .pointer (some ⟨g6, 0, none⟩)), (7, .pointer (some ⟨g42, 0, none⟩)), (8, .int .i64 x15), (9, .int .i64 x16), (69, .bool x43)] a ∧ Hp w0 (rd k_law18_Op A1_ c1_ a1 :: ps) (obj_disk_Disk g6 x40 :: obj_store_Store g42 g6 x38 :: fs) w) ?_ ?_
      ·skip
       refine wp_region_lit ?_
       refine mv F rfl fun a F => ?_
       refine mv F rfl fun a F => ?_
       obtain ⟨c45, k_43⟩ := guardO k_43
       obtain ⟨g46, o47, s48, hr, H⟩ := H.ix (⟨0, [], [], [], 0, []⟩ : law18_Op) 6 rfl (F.t 52 rfl) (F.t 53 rfl) Try.underlying22 sz35 (by decide) c45.1 c45.2
       obtain ⟨A49, c50, A51, c52, A53, c54, A55, c56, rfl, H⟩ := H.open_law18_Op 1 rfl
       refine qw F (hr _ _ _ _ _ _) fun a F => ?_
       refine qw F (r_fa (off := 0) (F.t 54 rfl) fa35_0) fun a F => ?_
       refine qw F (r_ld (F.t 55 rfl) (range_cell (j := 0) (H.range 4 rfl) rfl) one3) fun a F => ?_
       refine qw F (r_lt (F.t 56 rfl) (F.ev (x := .const (.int .i64 2)) rfl)) fun a F => ?_
       refine mv F rfl fun a F => ?_
       by_cases c57 : ((a1.getD (x16 : Int).toNat (⟨0, [], [], [], 0, []⟩ : law18_Op)).What) < 2
       ·rw [if_pos c57] at k_43
        rw [decide_eq_true c57] at F
        refine of_ F fun a F => ?_
        refine of_ F fun a F => ?_
        refine of_ F fun a F => ?_
        refine of_ F fun a F => ?_
        refine of_ F fun a F => ?_
        refine of_ F fun a F => ?_
        refine qw F (r_pickT (F.t 58 rfl) (F.ev (x := .const (.bool true)) rfl)) fun a F => ?_
        refine mv F rfl fun a F => ?_
        refine mv F rfl fun a F => ?_
        refine qw F (r_eq (F.t 67 rfl) (F.ev (x := .const (.int .i64 0)) rfl)) fun a F => ?_
        refine qw F (r_pickT (F.t 66 rfl) (F.t 68 rfl)) fun a F => ?_
        refine wpList_nil ?_
        replace F := F.only [69, 7, 1, 5, 6, 8, 9] (l' := [(69, .bool (decide (x39 = 0))), (7, .pointer (some ⟨g42, 0, none⟩)), (1, .slice A1_ a1.length c1_), (5, .bool x1), (6, .pointer (some ⟨g6, 0, none⟩)), (8, .int .i64 x15), (9, .int .i64 x16)]) rfl
        try dsimp only at k_43
        obtain rfl := Option.some.inj k_43
        exact ⟨_, rfl, F.only [1, 5, 6, 7, 8, 9, 69] rfl, H.px11.px10.px9.px8.px7.px6.px5.px4.px3.px2.px1.px0.f1⟩
       ·rw [if_neg c57] at k_43
        rw [decide_eq_false c57] at F
        refine mv F rfl fun a F => ?_
        refine mv F rfl fun a F => ?_
        obtain ⟨c58, k_43⟩ := guardO k_43
        obtain ⟨g59, o60, s61, hr, H⟩ := H.ix (⟨0, [], [], [], 0, []⟩ : law18_Op) 12 rfl (F.t 59 rfl) (F.t 60 rfl) Try.underlying22 sz35 (by decide) c58.1 c58.2
        obtain ⟨A62, c63, A64, c65, A66, c67, A68, c69, rfl, H⟩ := H.open_law18_Op 1 rfl
        refine qw F (hr _ _ _ _ _ _) fun a F => ?_
        refine qw F (r_fa (off := 0) (F.t 61 rfl) fa35_0) fun a F => ?_
        refine qw F (r_ld (F.t 62 rfl) (range_cell (j := 0) (H.range 4 rfl) rfl) one3) fun a F => ?_
        refine qw F (r_gt (F.t 63 rfl) (F.ev (x := .const (.int .i64 7)) rfl)) fun a F => ?_
        refine qw F (r_pickF (F.t 58 rfl) (F.t 64 rfl)) fun a F => ?_
        refine mv F rfl fun a F => ?_
        by_cases c70 : ((a1.getD (x16 : Int).toNat (⟨0, [], [], [], 0, []⟩ : law18_Op)).What) > 7
        ·rw [if_pos c70] at k_43
         rw [decide_eq_true c70] at F
         refine mv F rfl fun a F => ?_
         refine qw F (r_eq (F.t 67 rfl) (F.ev (x := .const (.int .i64 0)) rfl)) fun a F => ?_
         refine qw F (r_pickT (F.t 66 rfl) (F.t 68 rfl)) fun a F => ?_
         refine wpList_nil ?_
         replace F := F.only [69, 7, 1, 5, 6, 8, 9] (l' := [(69, .bool (decide (x39 = 0))), (7, .pointer (some ⟨g42, 0, none⟩)), (1, .slice A1_ a1.length c1_), (5, .bool x1), (6, .pointer (some ⟨g6, 0, none⟩)), (8, .int .i64 x15), (9, .int .i64 x16)]) rfl
         try dsimp only at k_43
         obtain rfl := Option.some.inj k_43
         exact ⟨_, rfl, F.only [1, 5, 6, 7, 8, 9, 69] rfl, H.px17.px16.px15.px14.px13.px12.px11.px10.px9.px8.px7.px6.px5.px4.px3.px2.px1.px0.f1⟩
        ·rw [if_neg c70] at k_43
         rw [decide_eq_false c70] at F
         refine of_ F fun a F => ?_
         refine of_ F fun a F => ?_
         refine qw F (r_pickF (F.t 66 rfl) (F.ev (x := .const (.bool false)) rfl)) fun a F => ?_
         refine wpList_nil ?_
         replace F := F.only [69, 7, 1, 5, 6, 8, 9] (l' := [(69, .bool false), (7, .pointer (some ⟨g42, 0, none⟩)), (1, .slice A1_ a1.length c1_), (5, .bool x1), (6, .pointer (some ⟨g6, 0, none⟩)), (8, .int .i64 x15), (9, .int .i64 x16)]) rfl
         try dsimp only at k_43
         obtain rfl := Option.some.inj k_43
         exact ⟨_, rfl, F.only [1, 5, 6, 7, 8, 9, 69] rfl, H.px17.px16.px15.px14.px13.px12.px11.px10.px9.px8.px7.px6.px5.px4.px3.px2.px1.px0.f1⟩
      ·rintro a w ⟨x43, rfl, F, H⟩
       try dsimp only at j_20 F H
       obtain ⟨o_71, k_71, j_20⟩ := Option.bind_eq_some_iff.1 j_20
       refine cut (fun a w => ∃ (x71 : Int), Sum.inl x71 = o_71 ∧ Fr 81 [] [(1, .slice A1_ a1.length c1_), (5, .bool x1), (6, .pointer (some ⟨g6, 0, none⟩)), (7, .pointer (some ⟨g42, 0, none⟩)), (8, .int .i64 x71), (9, .int .i64 x16)] a ∧ Hp w0 (rd k_law18_Op A1_ c1_ a1 :: ps) (obj_disk_Disk g6 x40 :: obj_store_Store g42 g6 x38 :: fs) w) ?_ ?_
       ·skip
        by_cases c73 : x43 = true
        ·rw [if_pos c73] at k_71
         rw [c73] at F
         refine wp_cond_true (F.ev rfl) ?_
         refine wp_seq ?_
         refine rg ?_
         refine mv F rfl fun a F => ?_
         obtain ⟨x74, e75, k_71⟩ := Option.bind_eq_some_iff.1 k_71
         try dsimp only at k_71
         refine ls (call F Try.func20 (store_Store_Gen_ok (H.f1) e75) rfl rfl fun v w hR a F => ?_)
         obtain ⟨rfl, H⟩ := hR
         refine mv F rfl fun a F => ?_
         refine qw F (r_le (F.t 71 rfl) (F.t 72 rfl)) fun a F => ?_
         refine rgend ?_
         replace F := F.only [73, 1, 5, 6, 7, 9] (l' := [(73, .bool (decide (x74 ≤ x15))), (1, .slice A1_ a1.length c1_), (5, .bool x1), (6, .pointer (some ⟨g6, 0, none⟩)), (7, .pointer (some ⟨g42, 0, none⟩)), (9, .int .i64 x16)]) rfl
         by_cases c76 : x74 ≤ x15
         ·rw [if_pos c76] at k_71
          rw [decide_eq_true c76] at F
          refine wp_cond_true (F.ev rfl) ?_
          refine rg ?_
          refine as_ F (v := .bool false) rfl fun a F => ?_
          refine rgend ?_
          replace F := F.only [4] (l' := [(4, .bool false)]) rfl
          refine wp_ret ?_
          try dsimp only at k_71
          obtain rfl := Option.some.inj k_71
          try dsimp only at j_20
          obtain rfl := Option.some.inj j_20
          obtain rfl := u_20 _ rfl
          try dsimp only at h
          obtain rfl := Option.some.inj h
          exact RET _ _ (ret1 F rfl rfl ⟨_, rfl, rfl, H.px0.fx1.fx0⟩)
         ·rw [if_neg c76] at k_71
          rw [decide_eq_false c76] at F
          refine wp_cond_false (F.ev rfl) ?_
          refine wp_skip ?_
          refine wp_region_lit ?_
          refine mv F rfl fun a F => ?_
          obtain ⟨x77, e78, k_71⟩ := Option.bind_eq_some_iff.1 k_71
          try dsimp only at k_71
          refine ls (call F Try.func20 (store_Store_Gen_ok (H) e78) rfl rfl fun v w hR a F => ?_)
          obtain ⟨rfl, H⟩ := hR
          refine as_ F rfl fun a F => ?_
          refine wpList_nil ?_
          try dsimp only at k_71
          obtain rfl := Option.some.inj k_71
          exact ⟨_, rfl, F.only [1, 5, 6, 7, 8, 9] rfl, H.f1⟩
        ·rw [if_neg c73] at k_71
         rw [Bool.eq_false_iff.2 c73] at F
         refine wp_cond_false (F.ev rfl) ?_
         refine wp_skip ?_
         try dsimp only at k_71
         obtain rfl := Option.some.inj k_71
         exact ⟨_, rfl, F.only [1, 5, 6, 7, 8, 9] rfl, H⟩
       ·rintro a w ⟨x71, rfl, F, H⟩
        try dsimp only at j_20 F H
        refine wp_region_lit ?_
        refine mv F rfl fun a F => ?_
        refine qw F (r_add (F.t 37 rfl) (F.ev (x := .const (.int .i64 1)) rfl)) fun a F => ?_
        refine as_ F rfl fun a F => ?_
        refine wpList_nil ?_
        try dsimp only at j_20
        obtain rfl := Option.some.inj j_20
        exact ⟨_, rfl, g42, F.only [1, 5, 6, 7, 8, 9] rfl, H.f1⟩
     ·rw [if_neg c25] at j_20
      rw [Bool.eq_false_iff.2 c25] at F
      refine wp_cond_false (F.ev rfl) ?_
      refine wp_exit ?_
      try dsimp only at j_20
      obtain rfl := Option.some.inj j_20
      obtain rfl := u_20 _ rfl
      repeat (with_reducible refine exT ?_)
      with_reducible refine exB ?_
      exact ⟨_, _, rfl, g13, F.only [5, 7] rfl, H.px0⟩
   ·rintro a w ⟨x19, x20, rfl, g18, F, H⟩
    try dsimp only at h F H
    refine wp_seq ?_
    obtain ⟨o_79, k_79, h⟩ := Option.bind_eq_some_iff.1 h
    refine cut (fun a w => ∃ (x79 : Bool), x79 = o_79 ∧ Fr 81 [] [(4, .bool x79)] a ∧ Hp w0 ps (obj_store_Store g18 g6 x19 :: obj_disk_Disk g6 x20 :: fs) w) ?_ ?_
    ·skip
     refine wp_region_lit ?_
     refine mv F rfl fun a F => ?_
     refine mv F rfl fun a F => ?_
     by_cases c81 : x1 = true
     ·rw [if_pos c81] at k_79
      rw [c81] at F
      refine mv F rfl fun a F => ?_
      refine qw F (r_pne (F.t 78 rfl) (F.ev (x := .const (.pointer none)) rfl) Try.underlying27) fun a F => ?_
      refine qw F (r_pickT (F.t 77 rfl) (F.t 79 rfl)) fun a F => ?_
      refine as_ F rfl fun a F => ?_
      refine wpList_nil ?_
      replace F := F.only [4] (l' := [(4, .bool true)]) rfl
      try dsimp only at k_79
      obtain rfl := Option.some.inj k_79
      exact ⟨_, rfl, F.only [4] rfl, H⟩
     ·rw [if_neg c81] at k_79
      rw [Bool.eq_false_iff.2 c81] at F
      refine of_ F fun a F => ?_
      refine of_ F fun a F => ?_
      refine qw F (r_pickF (F.t 77 rfl) (F.ev (x := .const (.bool false)) rfl)) fun a F => ?_
      refine as_ F rfl fun a F => ?_
      refine wpList_nil ?_
      replace F := F.only [4] (l' := [(4, .bool false)]) rfl
      try dsimp only at k_79
      obtain rfl := Option.some.inj k_79
      exact ⟨_, rfl, F.only [4] rfl, H⟩
    ·rintro a w ⟨x79, rfl, F, H⟩
     try dsimp only at h F H
     refine wp_ret ?_
     try dsimp only at h
     obtain rfl := Option.some.inj h
     exact RET _ _ (ret1 F rfl rfl ⟨_, rfl, rfl, H.fx1.fx0⟩)
end Go.Proofs.Ytpmkpiffbdcflaa
