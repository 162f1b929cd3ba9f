/- What the functions compute. Printed by wip/gen. -/
import Derived.Test.YtpmkpiffbdcflaaGL
set_option linter.unusedVariables false
set_option linter.unusedSimpArgs false
namespace Go.Proofs.Ytpmkpiffbdcflaa
open Go Go.RowKit
def law18_StoreRoom_b0 (a0 : Int) (a1 : List Int) (a2 : Int) : (Int × store_Store × disk_Disk) → Option (Int × store_Store × disk_Disk ⊕ ((store_Store × disk_Disk) ⊕ Bool))
 | (x22, x23, x24) => (if x22 < (IntKind.i64.wrap (a2.tmod 60)) then ((store_Store_Append_f x23 ([1]) x24).bind fun (x30, x31, x32) => (((if (((decide (x30 = 0)) != (decide ((IntKind.i64.wrap ((IntKind.i64.wrap ((IntKind.i64.wrap ((a1.length : Int) + 49)).tdiv 50)) + x22)) < (IntKind.i64.wrap ((IntKind.i64.wrap (a0.tmod 40)) + 1)))))) = true then some true else (if x30 ≠ 0 then some ((decide (x30 ≠ 5))) else some false)) : Option (Bool)).bind fun x34 => (if x34 = true then some (.inr (.inr false)) else some (.inl (IntKind.i64.wrap (x22 + 1), x31, x32))))) else some (.inr (.inl (x23, x24))))
def law18_StoreRoom_f (a0 : Int) (a1 : List Int) (a2 : Int) : Option (Bool) :=
 ((law18_head_f).bind fun x1 => ((disk_New_f (IntKind.i64.wrap (2 * (IntKind.i64.wrap ((IntKind.i64.wrap (a0.tmod 40)) + 1))))).bind fun x3 => match x3 with | none => some false | some x5 => (if (a1.length : Int) < 1 then some x1 else (if (a1.length : Int) > 1600 then some x1 else ((store_Open_f x5).bind fun x9 => ((store_Store_Begin_f x9 a1 [] x5).bind fun (x12, x13, x14) => (((if (((decide (x12 = 0)) != (decide ((IntKind.i64.wrap ((IntKind.i64.wrap ((a1.length : Int) + 49)).tdiv 50)) ≤ (IntKind.i64.wrap ((IntKind.i64.wrap (a0.tmod 40)) + 1)))))) = true then some true else (if x12 ≠ 0 then some ((decide (x12 ≠ 5))) else some false)) : Option (Bool)).bind fun x16 => (if x16 = true then some false else (if x12 ≠ 0 then some x1 else ((lp (law18_StoreRoom_b0 a0 a1 a2) (0, x13, x14)).bind fun q => match q with | .inl (x25, x26) => (((if x1 = true then ((store_Store_Begin_f x25 ([2]) [] x26).bind fun (x45, x46, x47) => some (decide (x45 = 0), x46, x47)) else some (false, x25, x26)) : Option (Bool × store_Store × disk_Disk)).bind fun (x39, x40, x41) => some x39) | .inr r => some r))))))))))
set_option maxHeartbeats 4000000 in
set_option maxRecDepth 20000 in
theorem law18_StoreRoom_ok {w0 w : World} {ps : List PF} {fs : List SF} {a0 : Int} {a1 : List Int} {A1_ : Option Addr} {c1_ : Nat} {a2 : Int} {r0 : Bool} (H : Hp w0 (rd kByte A1_ c1_ a1 :: ps) fs w) (h : law18_StoreRoom_f a0 a1 a2 = some r0) (ha0 : 0 ≤ a0 ∧ a0 < 256) (ha2 : 0 ≤ a2 ∧ a2 < 256) :
  Calls Try.prog 6 [.int .u8 a0, .slice A1_ a1.length c1_, .int .u8 a2].toArray w fun e w' => ∃ v, e = .returned v ∧ v = .bool r0 ∧ Hp w0 ps fs w' := by
 refine enter [.int .u8 a0, .slice A1_ a1.length c1_, .int .u8 a2] 101 Try.func6 fun Q a NP RET NRM F => ?_
 replace NP : ∀ c a w, ¬ Q (.panic c) a w := fun c a w h => by rcases NP c a w h with h | ⟨w, v, h, _⟩ <;> cases h
 unfold law18_StoreRoom_f at h
 refine rg ?_
 refine as_ F (v := .bool false) rfl fun a F => ?_
 refine rgend ?_
 refine rg ?_
 obtain ⟨x1, e2, h⟩ := Option.bind_eq_some_iff.1 h
 try dsimp only at h
 refine ls (call F Try.func10 (law18_head_ok (H) e2) rfl rfl fun v w hR a F => ?_)
 obtain ⟨rfl, H⟩ := hR
 refine as_ F rfl fun a F => ?_
 refine rgend ?_
 refine rg ?_
 refine mv F rfl fun a F => ?_
 refine qw F (r_rem (F.t 16 rfl) (F.ev (x := .const (.int .u8 40)) rfl) (by decide)) fun a F => ?_
 refine qw F (r_ci (F.t 17 rfl) Try.underlying3 Try.underlying5) fun a F => ?_
 refine qw F (r_add (F.t 18 rfl) (F.ev (x := .const (.int .i64 1)) rfl)) fun a F => ?_
 refine as_ F rfl fun a F => ?_
 refine rgend ?_
 replace F := F.only [8, 7, 1, 2] (l' := [(8, .int .i64 (IntKind.i64.wrap ((IntKind.i64.wrap (a0.tmod 40)) + 1))), (7, .bool x1), (1, .slice A1_ a1.length c1_), (2, .int .u8 a2)]) rfl
 refine rg ?_
 refine mv F rfl fun a F => ?_
 refine qw F (r_mul (F.ev (x := .const (.int .i64 2)) rfl) (F.t 20 rfl)) fun a F => ?_
 obtain ⟨x3, e4, h⟩ := Option.bind_eq_some_iff.1 h
 try dsimp only at h
 rcases x3 with _ | x5
 ·try dsimp only at h
  refine ls (call F Try.func11 (disk_New_ok (H) e4) rfl rfl fun v w hR a F => ?_)
  obtain ⟨rfl, H⟩ := hR
  refine as_ F rfl fun a F => ?_
  refine rgend ?_
  refine wp_seq ?_
  refine rg ?_
  refine mv F rfl fun a F => ?_
  refine qw F (r_peq0 (F.t 23 rfl) (F.ev (x := .const (.pointer none)) rfl) Try.underlying24) fun a F => ?_
  refine mv F rfl fun a F => ?_
  refine of_ F fun a F => ?_
  refine of_ F fun a F => ?_
  refine of_ F fun a F => ?_
  refine qw F (r_pickT (F.t 25 rfl) (F.ev (x := .const (.bool true)) rfl)) fun a F => ?_
  refine mv F rfl fun a F => ?_
  refine of_ F fun a F => ?_
  refine of_ F fun a F => ?_
  refine of_ F fun a F => ?_
  refine qw F (r_pickT (F.t 30 rfl) (F.ev (x := .const (.bool true)) rfl)) fun a F => ?_
  refine rgend ?_
  replace F := F.only [34, 9, 8, 7, 1, 2] (l' := [(34, .bool true), (9, .pointer none), (8, .int .i64 (IntKind.i64.wrap ((IntKind.i64.wrap (a0.tmod 40)) + 1))), (7, .bool x1), (1, .slice A1_ a1.length c1_), (2, .int .u8 a2)]) rfl
  refine wp_cond_true (F.ev rfl) ?_
  refine wp_seq ?_
  refine wp_region_lit ?_
  refine mv F rfl fun a F => ?_
  refine qw F (r_pne0 (F.t 35 rfl) (F.ev (x := .const (.pointer none)) rfl) Try.underlying24) fun a F => ?_
  refine mv F rfl fun a F => ?_
  refine of_ F fun a F => ?_
  refine qw F (r_pickF (F.t 37 rfl) (F.ev (x := .const (.bool false)) rfl)) fun a F => ?_
  refine as_ F rfl fun a F => ?_
  refine wpList_nil ?_
  replace F := F.only [6] (l' := [(6, .bool false)]) rfl
  refine wp_ret ?_
  try dsimp only at h
  obtain rfl := Option.some.inj h
  exact RET _ _ (ret1 F rfl rfl ⟨_, rfl, rfl, H.px0⟩)
 ·try dsimp only at h
  refine ls (call F Try.func11 (disk_New_ok (H) e4) rfl rfl fun v w hR a F => ?_)
  obtain ⟨g6, rfl, H⟩ := hR
  refine as_ F rfl fun a F => ?_
  refine rgend ?_
  refine wp_seq ?_
  refine rg ?_
  refine mv F rfl fun a F => ?_
  refine qw F (r_peq (F.t 23 rfl) (F.ev (x := .const (.pointer none)) rfl) Try.underlying24) fun a F => ?_
  refine mv F rfl fun a F => ?_
  refine mv F rfl fun a F => ?_
  refine qw F (r_len (F.t 26 rfl) Try.underlying29) fun a F => ?_
  refine qw F (r_lt (F.t 27 rfl) (F.ev (x := .const (.int .i64 1)) rfl)) fun a F => ?_
  refine qw F (r_pickF (F.t 25 rfl) (F.t 28 rfl)) fun a F => ?_
  refine mv F rfl fun a F => ?_
  by_cases c7 : (a1.length : Int) < 1
  ·rw [if_pos c7] at h
   rw [decide_eq_true c7] at F
   refine of_ F fun a F => ?_
   refine of_ F fun a F => ?_
   refine of_ F fun a F => ?_
   refine qw F (r_pickT (F.t 30 rfl) (F.ev (x := .const (.bool true)) rfl)) fun a F => ?_
   refine rgend ?_
   replace F := F.only [34, 9, 8, 7, 1, 2] (l' := [(34, .bool true), (9, .pointer (some ⟨g6, 0, none⟩)), (8, .int .i64 (IntKind.i64.wrap ((IntKind.i64.wrap (a0.tmod 40)) + 1))), (7, .bool x1), (1, .slice A1_ a1.length c1_), (2, .int .u8 a2)]) rfl
   refine wp_cond_true (F.ev rfl) ?_
   refine wp_seq ?_
   refine wp_region_lit ?_
   refine mv F rfl fun a F => ?_
   refine qw F (r_pne (F.t 35 rfl) (F.ev (x := .const (.pointer none)) rfl) Try.underlying24) fun a F => ?_
   refine mv F rfl fun a F => ?_
   refine mv F rfl fun a F => ?_
   refine qw F (r_pickT (F.t 37 rfl) (F.t 38 rfl)) fun a F => ?_
   refine as_ F rfl fun a F => ?_
   refine wpList_nil ?_
   replace F := F.only [6] (l' := [(6, .bool x1)]) rfl
   refine wp_ret ?_
   try dsimp only at h
   obtain rfl := Option.some.inj h
   exact RET _ _ (ret1 F rfl rfl ⟨_, rfl, rfl, H.px0.fx0⟩)
  ·rw [if_neg c7] at h
   rw [decide_eq_false c7] at F
   refine mv F rfl fun a F => ?_
   refine qw F (r_len (F.t 31 rfl) Try.underlying29) fun a F => ?_
   refine qw F (r_gt (F.t 32 rfl) (F.ev (x := .const (.int .i64 1600)) rfl)) fun a F => ?_
   refine qw F (r_pickF (F.t 30 rfl) (F.t 33 rfl)) fun a F => ?_
   refine rgend ?_
   replace F := F.only [34, 9, 8, 7, 1, 2] (l' := [(34, .bool (decide ((a1.length : Int) > 1600))), (9, .pointer (some ⟨g6, 0, none⟩)), (8, .int .i64 (IntKind.i64.wrap ((IntKind.i64.wrap (a0.tmod 40)) + 1))), (7, .bool x1), (1, .slice A1_ a1.length c1_), (2, .int .u8 a2)]) rfl
   by_cases c8 : (a1.length : Int) > 1600
   ·rw [if_pos c8] at h
    rw [decide_eq_true c8] at F
    refine wp_cond_true (F.ev rfl) ?_
    refine wp_seq ?_
    refine wp_region_lit ?_
    refine mv F rfl fun a F => ?_
    refine qw F (r_pne (F.t 35 rfl) (F.ev (x := .const (.pointer none)) rfl) Try.underlying24) fun a F => ?_
    refine mv F rfl fun a F => ?_
    refine mv F rfl fun a F => ?_
    refine qw F (r_pickT (F.t 37 rfl) (F.t 38 rfl)) fun a F => ?_
    refine as_ F rfl fun a F => ?_
    refine wpList_nil ?_
    replace F := F.only [6] (l' := [(6, .bool x1)]) rfl
    refine wp_ret ?_
    try dsimp only at h
    obtain rfl := Option.some.inj h
    exact RET _ _ (ret1 F rfl rfl ⟨_, rfl, rfl, H.px0.fx0⟩)
   ·rw [if_neg c8] at h
    rw [decide_eq_false c8] at F
    refine wp_cond_false (F.ev rfl) ?_
    refine wp_skip ?_
    refine rg ?_
    refine mv F rfl fun a F => ?_
    obtain ⟨x9, e10, h⟩ := Option.bind_eq_some_iff.1 h
    try dsimp only at h
    refine ls (call F Try.func13 (store_Open_ok (H) e10) rfl rfl fun v w hR a F => ?_)
    obtain ⟨g11, rfl, H⟩ := hR
    refine as_ F rfl fun a F => ?_
    refine rgend ?_
    replace F := F.only [10, 8, 7, 1, 2] (l' := [(10, .pointer (some ⟨g11, 0, none⟩)), (8, .int .i64 (IntKind.i64.wrap ((IntKind.i64.wrap (a0.tmod 40)) + 1))), (7, .bool x1), (1, .slice A1_ a1.length c1_), (2, .int .u8 a2)]) rfl
    refine wp_seq ?_
    refine rg ?_
    refine mv F rfl fun a F => ?_
    refine qw F (r_peq (F.t 42 rfl) (F.ev (x := .const (.pointer none)) rfl) Try.underlying27) fun a F => ?_
    refine rgend ?_
    refine wp_cond_false (F.ev rfl) ?_
    refine wp_skip ?_
    refine rg ?_
    refine mv F rfl fun a F => ?_
    refine qw F (r_len (F.t 44 rfl) Try.underlying29) fun a F => ?_
    refine qw F (r_add (F.t 45 rfl) (F.ev (x := .const (.int .i64 49)) rfl)) fun a F => ?_
    refine qw F (r_quo (F.t 46 rfl) (F.ev (x := .const (.int .i64 50)) rfl) (by decide)) fun a F => ?_
    refine as_ F rfl fun a F => ?_
    refine rgend ?_
    replace F := F.only [11, 10, 8, 7, 1, 2] (l' := [(11, .int .i64 (IntKind.i64.wrap ((IntKind.i64.wrap ((a1.length : Int) + 49)).tdiv 50))), (10, .pointer (some ⟨g11, 0, none⟩)), (8, .int .i64 (IntKind.i64.wrap ((IntKind.i64.wrap (a0.tmod 40)) + 1))), (7, .bool x1), (1, .slice A1_ a1.length c1_), (2, .int .u8 a2)]) rfl
    refine rg ?_
    refine mv F rfl fun a F => ?_
    refine mv F rfl fun a F => ?_
    replace H := H.nilRd (kSlice kByte)
    obtain ⟨⟨x12, x13, x14⟩, e15, h⟩ := Option.bind_eq_some_iff.1 h
    try dsimp only at h
    refine ls (call F Try.func21 (store_Store_Begin_ok (H.p0.p2) e15) rfl rfl fun v w hR a F => ?_)
    obtain ⟨rfl, H⟩ := hR
    refine as_ F rfl fun a F => ?_
    refine rgend ?_
    replace F := F.only [12, 11, 10, 8, 7, 2] (l' := [(12, .int .i64 x12), (11, .int .i64 (IntKind.i64.wrap ((IntKind.i64.wrap ((a1.length : Int) + 49)).tdiv 50))), (10, .pointer (some ⟨g11, 0, none⟩)), (8, .int .i64 (IntKind.i64.wrap ((IntKind.i64.wrap (a0.tmod 40)) + 1))), (7, .bool x1), (2, .int .u8 a2)]) rfl
    refine wp_seq ?_
    refine wp_seq ?_
    obtain ⟨o_16, k_16, h⟩ := Option.bind_eq_some_iff.1 h
    refine cut (fun a w => ∃ (x16 : Bool), x16 = o_16 ∧ Fr 101 [] [(2, .int .u8 a2), (7, .bool x1), (8, .int .i64 (IntKind.i64.wrap ((IntKind.i64.wrap (a0.tmod 40)) + 1))), (10, .pointer (some ⟨g11, 0, none⟩)), (11, .int .i64 (IntKind.i64.wrap ((IntKind.i64.wrap ((a1.length : Int) + 49)).tdiv 50))), (12, .int .i64 x12), (64, .bool x16)] a ∧ Hp w0 ps (obj_store_Store g11 g6 x13 :: obj_disk_Disk g6 x14 :: fs) w) ?_ ?_
    ·skip
     refine wp_region_lit ?_
     refine mv F rfl fun a F => ?_
     refine qw F (r_eq (F.t 51 rfl) (F.ev (x := .const (.int .i64 0)) rfl)) fun a F => ?_
     refine mv F rfl fun a F => ?_
     refine mv F rfl fun a F => ?_
     refine qw F (r_le (F.t 53 rfl) (F.t 54 rfl)) fun a F => ?_
     refine qw F (r_bne (F.t 52 rfl) (F.t 55 rfl) Try.underlying4) fun a F => ?_
     refine mv F rfl fun a F => ?_
     by_cases c18 : (((decide (x12 = 0)) != (decide ((IntKind.i64.wrap ((IntKind.i64.wrap ((a1.length : Int) + 49)).tdiv 50)) ≤ (IntKind.i64.wrap ((IntKind.i64.wrap (a0.tmod 40)) + 1)))))) = true
     ·rw [if_pos c18] at k_16
      rw [c18] at F
      refine of_ F fun a F => ?_
      refine of_ F fun a F => ?_
      refine of_ F fun a F => ?_
      refine of_ F fun a F => ?_
      refine of_ F fun a F => ?_
      refine of_ F fun a F => ?_
      refine qw F (r_pickT (F.t 57 rfl) (F.ev (x := .const (.bool true)) rfl)) fun a F => ?_
      refine wpList_nil ?_
      replace F := F.only [64, 12, 11, 10, 8, 7, 2] (l' := [(64, .bool true), (12, .int .i64 x12), (11, .int .i64 (IntKind.i64.wrap ((IntKind.i64.wrap ((a1.length : Int) + 49)).tdiv 50))), (10, .pointer (some ⟨g11, 0, none⟩)), (8, .int .i64 (IntKind.i64.wrap ((IntKind.i64.wrap (a0.tmod 40)) + 1))), (7, .bool x1), (2, .int .u8 a2)]) rfl
      try dsimp only at k_16
      obtain rfl := Option.some.inj k_16
      exact ⟨_, rfl, F.only [2, 7, 8, 10, 11, 12, 64] rfl, H.px1.px0⟩
     ·rw [if_neg c18] at k_16
      rw [Bool.eq_false_iff.2 c18] at F
      refine mv F rfl fun a F => ?_
      refine qw F (r_ne (F.t 58 rfl) (F.ev (x := .const (.int .i64 0)) rfl)) fun a F => ?_
      refine mv F rfl fun a F => ?_
      by_cases c19 : x12 ≠ 0
      ·rw [if_pos c19] at k_16
       rw [decide_eq_true c19] at F
       refine mv F rfl fun a F => ?_
       refine qw F (r_ne (F.t 61 rfl) (F.ev (x := .const (.int .i64 5)) rfl)) fun a F => ?_
       refine qw F (r_pickT (F.t 60 rfl) (F.t 62 rfl)) fun a F => ?_
       refine qw F (r_pickF (F.t 57 rfl) (F.t 63 rfl)) fun a F => ?_
       refine wpList_nil ?_
       replace F := F.only [64, 12, 11, 10, 8, 7, 2] (l' := [(64, .bool (decide (x12 ≠ 5))), (12, .int .i64 x12), (11, .int .i64 (IntKind.i64.wrap ((IntKind.i64.wrap ((a1.length : Int) + 49)).tdiv 50))), (10, .pointer (some ⟨g11, 0, none⟩)), (8, .int .i64 (IntKind.i64.wrap ((IntKind.i64.wrap (a0.tmod 40)) + 1))), (7, .bool x1), (2, .int .u8 a2)]) rfl
       try dsimp only at k_16
       obtain rfl := Option.some.inj k_16
       exact ⟨_, rfl, F.only [2, 7, 8, 10, 11, 12, 64] rfl, H.px1.px0⟩
      ·rw [if_neg c19] at k_16
       rw [decide_eq_false c19] at F
       refine of_ F fun a F => ?_
       refine of_ F fun a F => ?_
       refine qw F (r_pickF (F.t 60 rfl) (F.ev (x := .const (.bool false)) rfl)) fun a F => ?_
       refine qw F (r_pickF (F.t 57 rfl) (F.t 63 rfl)) fun a F => ?_
       refine wpList_nil ?_
       replace F := F.only [64, 12, 11, 10, 8, 7, 2] (l' := [(64, .bool false), (12, .int .i64 x12), (11, .int .i64 (IntKind.i64.wrap ((IntKind.i64.wrap ((a1.length : Int) + 49)).tdiv 50))), (10, .pointer (some ⟨g11, 0, none⟩)), (8, .int .i64 (IntKind.i64.wrap ((IntKind.i64.wrap (a0.tmod 40)) + 1))), (7, .bool x1), (2, .int .u8 a2)]) rfl
       try dsimp only at k_16
       obtain rfl := Option.some.inj k_16
       exact ⟨_, rfl, F.only [2, 7, 8, 10, 11, 12, 64] rfl, H.px1.px0⟩
    ·rintro a w ⟨x16, rfl, F, H⟩
     try dsimp only at h F H
     by_cases c20 : x16 = true
     ·rw [if_pos c20] at h
      rw [c20] at F
      refine wp_cond_true (F.ev rfl) ?_
      refine rg ?_
      refine as_ F (v := .bool false) rfl fun a F => ?_
      refine rgend ?_
      replace F := F.only [6] (l' := [(6, .bool false)]) rfl
      refine wp_ret ?_
      try dsimp only at h
      obtain rfl := Option.some.inj h
      exact RET _ _ (ret1 F rfl rfl ⟨_, rfl, rfl, H.fx1.fx0⟩)
     ·rw [if_neg c20] at h
      rw [Bool.eq_false_iff.2 c20] at F
      refine wp_cond_false (F.ev rfl) ?_
      refine wp_skip ?_
      refine wp_seq ?_
      refine rg ?_
      refine mv F rfl fun a F => ?_
      refine qw F (r_ne (F.t 65 rfl) (F.ev (x := .const (.int .i64 0)) rfl)) fun a F => ?_
      refine rgend ?_
      by_cases c21 : x12 ≠ 0
      ·rw [if_pos c21] at h
       rw [decide_eq_true c21] at F
       refine wp_cond_true (F.ev rfl) ?_
       refine rg ?_
       refine mv F rfl fun a F => ?_
       refine as_ F rfl fun a F => ?_
       refine rgend ?_
       replace F := F.only [6] (l' := [(6, .bool x1)]) rfl
       refine wp_ret ?_
       try dsimp only at h
       obtain rfl := Option.some.inj h
       exact RET _ _ (ret1 F rfl rfl ⟨_, rfl, rfl, H.fx1.fx0⟩)
      ·rw [if_neg c21] at h
       rw [decide_eq_false c21] at F
       refine wp_cond_false (F.ev rfl) ?_
       refine wp_skip ?_
       refine wp_seq ?_
       refine rg ?_
       refine as_ F (v := .int .i64 0) rfl fun a F => ?_
       refine rgend ?_
       replace F := F.only [13, 2, 7, 8, 10, 11] (l' := [(13, .int .i64 0), (2, .int .u8 a2), (7, .bool x1), (8, .int .i64 (IntKind.i64.wrap ((IntKind.i64.wrap (a0.tmod 40)) + 1))), (10, .pointer (some ⟨g11, 0, none⟩)), (11, .int .i64 (IntKind.i64.wrap ((IntKind.i64.wrap ((a1.length : Int) + 49)).tdiv 50)))]) rfl
       obtain ⟨o_26, k_26, h⟩ := Option.bind_eq_some_iff.1 h
       refine cut (fun a w => ∃ (x25 : store_Store) (x26 : disk_Disk), Sum.inl (x25, x26) = o_26 ∧ Fr 101 [] [(7, .bool x1), (10, .pointer (some ⟨g11, 0, none⟩))] a ∧ Hp w0 ps (obj_store_Store g11 g6 x25 :: obj_disk_Disk g6 x26 :: fs) w) (wp_block ?_) ?_
       ·refine wloop (law18_StoreRoom_b0 a0 a1 a2) (fun (s : Int × store_Store × disk_Disk) a w => Fr 101 [] [(2, .int .u8 a2), (7, .bool x1), (8, .int .i64 (IntKind.i64.wrap ((IntKind.i64.wrap (a0.tmod 40)) + 1))), (10, .pointer (some ⟨g11, 0, none⟩)), (11, .int .i64 (IntKind.i64.wrap ((IntKind.i64.wrap ((a1.length : Int) + 49)).tdiv 50))), (13, .int .i64 s.1)] a ∧ Hp w0 ps (obj_store_Store g11 g6 s.2.1 :: obj_disk_Disk g6 s.2.2 :: fs) w) k_26 ⟨F.only [2, 7, 8, 10, 11, 13] rfl, H⟩ ?_
        rintro ⟨x22, x23, x24⟩ a w q_26 j_26 u_26 ⟨F, H⟩
        unfold law18_StoreRoom_b0 at j_26
        try dsimp only at j_26 F H
        refine wp_seq ?_
        refine rg ?_
        refine mv F rfl fun a F => ?_
        refine mv F rfl fun a F => ?_
        refine qw F (r_rem (F.t 69 rfl) (F.ev (x := .const (.int .u8 60)) rfl) (by decide)) fun a F => ?_
        refine qw F (r_ci (F.t 70 rfl) Try.underlying3 Try.underlying5) fun a F => ?_
        refine qw F (r_lt (F.t 68 rfl) (F.t 71 rfl)) fun a F => ?_
        refine rgend ?_
        replace F := F.only [72, 2, 7, 8, 10, 11, 13] (l' := [(72, .bool (decide (x22 < (IntKind.i64.wrap (a2.tmod 60))))), (2, .int .u8 a2), (7, .bool x1), (8, .int .i64 (IntKind.i64.wrap ((IntKind.i64.wrap (a0.tmod 40)) + 1))), (10, .pointer (some ⟨g11, 0, none⟩)), (11, .int .i64 (IntKind.i64.wrap ((IntKind.i64.wrap ((a1.length : Int) + 49)).tdiv 50))), (13, .int .i64 x22)]) rfl
        by_cases c28 : x22 < (IntKind.i64.wrap (a2.tmod 60))
        ·rw [if_pos c28] at j_26
         rw [decide_eq_true c28] at F
         refine wp_cond_true (F.ev rfl) ?_
         refine wp_skip ?_
         refine wp_seq ?_
         refine wp_block ?_
         refine rg ?_
         refine mv F rfl fun a F => ?_
         refine ls (lbs F H (e := 5) (vs := [(0, .int .u8 1)]) (cs := [.int .u8 1]) rfl (fun w => by kernel_rfl) fun g29 w a H F => ?_)
         replace H := Hp.litRd (kd := kByte) (xs := [1]) (H) ((SayL.cons (kd := kByte) (c1 := [.int .u8 1]) (y := 1) (fun Z hp => ⟨rfl, (by decide)⟩) SayL.nil)) (Nat.le_of_ble_eq_true rfl)
         obtain ⟨⟨x30, x31, x32⟩, e33, j_26⟩ := Option.bind_eq_some_iff.1 j_26
         try dsimp only at j_26
         refine ls (call F Try.func22 (store_Store_Append_ok (H.p0) e33) rfl rfl fun v w hR a F => ?_)
         obtain ⟨rfl, H⟩ := hR
         refine as_ F rfl fun a F => ?_
         refine rgend ?_
         replace F := F.only [14, 2, 7, 8, 10, 11, 13] (l' := [(14, .int .i64 x30), (2, .int .u8 a2), (7, .bool x1), (8, .int .i64 (IntKind.i64.wrap ((IntKind.i64.wrap (a0.tmod 40)) + 1))), (10, .pointer (some ⟨g11, 0, none⟩)), (11, .int .i64 (IntKind.i64.wrap ((IntKind.i64.wrap ((a1.length : Int) + 49)).tdiv 50))), (13, .int .i64 x22)]) rfl
         refine wp_seq ?_
         obtain ⟨o_34, k_34, j_26⟩ := Option.bind_eq_some_iff.1 j_26
         refine cut (fun a w => ∃ (x34 : Bool), x34 = o_34 ∧ Fr 101 [] [(2, .int .u8 a2), (7, .bool x1), (8, .int .i64 (IntKind.i64.wrap ((IntKind.i64.wrap (a0.tmod 40)) + 1))), (10, .pointer (some ⟨g11, 0, none⟩)), (11, .int .i64 (IntKind.i64.wrap ((IntKind.i64.wrap ((a1.length : Int) + 49)).tdiv 50))), (13, .int .i64 x22), (93, .bool x34)] a ∧ Hp w0 ps (obj_store_Store g11 g6 x31 :: obj_disk_Disk g6 x32 :: fs) w) ?_ ?_
         ·skip
          refine wp_region_lit ?_
          refine mv F rfl fun a F => ?_
          refine qw F (r_eq (F.t 78 rfl) (F.ev (x := .const (.int .i64 0)) rfl)) fun a F => ?_
          refine mv F rfl fun a F => ?_
          refine mv F rfl fun a F => ?_
          refine qw F (r_add (F.t 80 rfl) (F.t 81 rfl)) fun a F => ?_
          refine mv F rfl fun a F => ?_
          refine qw F (r_lt (F.t 82 rfl) (F.t 83 rfl)) fun a F => ?_
          refine qw F (r_bne (F.t 79 rfl) (F.t 84 rfl) Try.underlying4) fun a F => ?_
          refine mv F rfl fun a F => ?_
          by_cases c36 : (((decide (x30 = 0)) != (decide ((IntKind.i64.wrap ((IntKind.i64.wrap ((IntKind.i64.wrap ((a1.length : Int) + 49)).tdiv 50)) + x22)) < (IntKind.i64.wrap ((IntKind.i64.wrap (a0.tmod 40)) + 1)))))) = true
          ·rw [if_pos c36] at k_34
           rw [c36] at F
           refine of_ F fun a F => ?_
           refine of_ F fun a F => ?_
           refine of_ F fun a F => ?_
           refine of_ F fun a F => ?_
           refine of_ F fun a F => ?_
           refine of_ F fun a F => ?_
           refine qw F (r_pickT (F.t 86 rfl) (F.ev (x := .const (.bool true)) rfl)) fun a F => ?_
           refine wpList_nil ?_
           replace F := F.only [93, 2, 7, 8, 10, 11, 13] (l' := [(93, .bool true), (2, .int .u8 a2), (7, .bool x1), (8, .int .i64 (IntKind.i64.wrap ((IntKind.i64.wrap (a0.tmod 40)) + 1))), (10, .pointer (some ⟨g11, 0, none⟩)), (11, .int .i64 (IntKind.i64.wrap ((IntKind.i64.wrap ((a1.length : Int) + 49)).tdiv 50))), (13, .int .i64 x22)]) rfl
           try dsimp only at k_34
           obtain rfl := Option.some.inj k_34
           exact ⟨_, rfl, F.only [2, 7, 8, 10, 11, 13, 93] rfl, H.px0⟩
          ·rw [if_neg c36] at k_34
           rw [Bool.eq_false_iff.2 c36] at F
           refine mv F rfl fun a F => ?_
           refine qw F (r_ne (F.t 87 rfl) (F.ev (x := .const (.int .i64 0)) rfl)) fun a F => ?_
           refine mv F rfl fun a F => ?_
           by_cases c37 : x30 ≠ 0
           ·rw [if_pos c37] at k_34
            rw [decide_eq_true c37] at F
            refine mv F rfl fun a F => ?_
            refine qw F (r_ne (F.t 90 rfl) (F.ev (x := .const (.int .i64 5)) rfl)) fun a F => ?_
            refine qw F (r_pickT (F.t 89 rfl) (F.t 91 rfl)) fun a F => ?_
            refine qw F (r_pickF (F.t 86 rfl) (F.t 92 rfl)) fun a F => ?_
            refine wpList_nil ?_
            replace F := F.only [93, 2, 7, 8, 10, 11, 13] (l' := [(93, .bool (decide (x30 ≠ 5))), (2, .int .u8 a2), (7, .bool x1), (8, .int .i64 (IntKind.i64.wrap ((IntKind.i64.wrap (a0.tmod 40)) + 1))), (10, .pointer (some ⟨g11, 0, none⟩)), (11, .int .i64 (IntKind.i64.wrap ((IntKind.i64.wrap ((a1.length : Int) + 49)).tdiv 50))), (13, .int .i64 x22)]) rfl
            try dsimp only at k_34
            obtain rfl := Option.some.inj k_34
            exact ⟨_, rfl, F.only [2, 7, 8, 10, 11, 13, 93] rfl, H.px0⟩
           ·rw [if_neg c37] at k_34
            rw [decide_eq_false c37] at F
            refine of_ F fun a F => ?_
            refine of_ F fun a F => ?_
            refine qw F (r_pickF (F.t 89 rfl) (F.ev (x := .const (.bool false)) rfl)) fun a F => ?_
            refine qw F (r_pickF (F.t 86 rfl) (F.t 92 rfl)) fun a F => ?_
            refine wpList_nil ?_
            replace F := F.only [93, 2, 7, 8, 10, 11, 13] (l' := [(93, .bool false), (2, .int .u8 a2), (7, .bool x1), (8, .int .i64 (IntKind.i64.wrap ((IntKind.i64.wrap (a0.tmod 40)) + 1))), (10, .pointer (some ⟨g11, 0, none⟩)), (11, .int .i64 (IntKind.i64.wrap ((IntKind.i64.wrap ((a1.length : Int) + 49)).tdiv 50))), (13, .int .i64 x22)]) rfl
            try dsimp only at k_34
            obtain rfl := Option.some.inj k_34
            exact ⟨_, rfl, F.only [2, 7, 8, 10, 11, 13, 93] rfl, H.px0⟩
         ·rintro a w ⟨x34, rfl, F, H⟩
          try dsimp only at j_26 F H
          by_cases c38 : x34 = true
          ·rw [if_pos c38] at j_26
           rw [c38] at F
           refine wp_cond_true (F.ev rfl) ?_
           refine rg ?_
           refine as_ F (v := .bool false) rfl fun a F => ?_
           refine rgend ?_
           replace F := F.only [6] (l' := [(6, .bool false)]) rfl
           refine wp_ret ?_
           try dsimp only at j_26
           obtain rfl := Option.some.inj j_26
           obtain rfl := u_26 _ rfl
           try dsimp only at h
           obtain rfl := Option.some.inj h
           exact RET _ _ (ret1 F rfl rfl ⟨_, rfl, rfl, H.fx1.fx0⟩)
          ·rw [if_neg c38] at j_26
           rw [Bool.eq_false_iff.2 c38] at F
           refine wp_cond_false (F.ev rfl) ?_
           refine wp_skip ?_
           refine wp_region_lit ?_
           refine mv F rfl fun a F => ?_
           refine qw F (r_add (F.t 73 rfl) (F.ev (x := .const (.int .i64 1)) rfl)) fun a F => ?_
           refine as_ F rfl fun a F => ?_
           refine wpList_nil ?_
           replace F := F.only [13, 2, 7, 8, 10, 11] (l' := [(13, .int .i64 (IntKind.i64.wrap (x22 + 1))), (2, .int .u8 a2), (7, .bool x1), (8, .int .i64 (IntKind.i64.wrap ((IntKind.i64.wrap (a0.tmod 40)) + 1))), (10, .pointer (some ⟨g11, 0, none⟩)), (11, .int .i64 (IntKind.i64.wrap ((IntKind.i64.wrap ((a1.length : Int) + 49)).tdiv 50)))]) rfl
           try dsimp only at j_26
           obtain rfl := Option.some.inj j_26
           exact ⟨_, rfl, F.only [2, 7, 8, 10, 11, 13] rfl, H⟩
        ·rw [if_neg c28] at j_26
         rw [decide_eq_false c28] at F
         refine wp_cond_false (F.ev rfl) ?_
         refine wp_exit ?_
         try dsimp only at j_26
         obtain rfl := Option.some.inj j_26
         obtain rfl := u_26 _ rfl
         repeat (with_reducible refine exT ?_)
         with_reducible refine exB ?_
         exact ⟨_, _, rfl, F.only [7, 10] rfl, H⟩
       ·rintro a w ⟨x25, x26, rfl, F, H⟩
        try dsimp only at h F H
        refine wp_seq ?_
        obtain ⟨o_41, k_41, h⟩ := Option.bind_eq_some_iff.1 h
        refine cut (fun a w => ∃ (x39 : Bool) (x40 : store_Store) (x41 : disk_Disk), (x39, x40, x41) = o_41 ∧ Fr 101 [] [(6, .bool x39)] a ∧ Hp w0 ps (obj_store_Store g11 g6 x40 :: obj_disk_Disk g6 x41 :: fs) w) ?_ ?_
        ·skip
         refine wp_region_lit ?_
         refine mv F rfl fun a F => ?_
         refine mv F rfl fun a F => ?_
         by_cases c43 : x1 = true
         ·rw [if_pos c43] at k_41
          rw [c43] at F
          refine mv F rfl fun a F => ?_
          refine ls (lbs F H (e := 5) (vs := [(0, .int .u8 2)]) (cs := [.int .u8 2]) rfl (fun w => by kernel_rfl) fun g44 w a H F => ?_)
          replace H := Hp.litRd (kd := kByte) (xs := [2]) (H) ((SayL.cons (kd := kByte) (c1 := [.int .u8 2]) (y := 2) (fun Z hp => ⟨rfl, (by decide)⟩) SayL.nil)) (Nat.le_of_ble_eq_true rfl)
          replace H := H.nilRd (kSlice kByte)
          obtain ⟨⟨x45, x46, x47⟩, e48, k_41⟩ := Option.bind_eq_some_iff.1 k_41
          try dsimp only at k_41
          refine ls (call F Try.func21 (store_Store_Begin_ok (H.p0.p2) e48) rfl rfl fun v w hR a F => ?_)
          obtain ⟨rfl, H⟩ := hR
          refine qw F (r_eq (F.t 98 rfl) (F.ev (x := .const (.int .i64 0)) rfl)) fun a F => ?_
          refine qw F (r_pickT (F.t 95 rfl) (F.t 99 rfl)) fun a F => ?_
          refine as_ F rfl fun a F => ?_
          refine wpList_nil ?_
          replace F := F.only [6] (l' := [(6, .bool (decide (x45 = 0)))]) rfl
          try dsimp only at k_41
          obtain rfl := Option.some.inj k_41
          exact ⟨_, _, _, rfl, F.only [6] rfl, H.px1.px0⟩
         ·rw [if_neg c43] at k_41
          rw [Bool.eq_false_iff.2 c43] at F
          refine of_ F fun a F => ?_
          refine of_ F fun a F => ?_
          refine of_ F fun a F => ?_
          refine of_ F fun a F => ?_
          refine qw F (r_pickF (F.t 95 rfl) (F.ev (x := .const (.bool false)) rfl)) fun a F => ?_
          refine as_ F rfl fun a F => ?_
          refine wpList_nil ?_
          replace F := F.only [6] (l' := [(6, .bool false)]) rfl
          try dsimp only at k_41
          obtain rfl := Option.some.inj k_41
          exact ⟨_, _, _, rfl, F.only [6] rfl, H⟩
        ·rintro a w ⟨x39, x40, x41, rfl, F, H⟩
         try dsimp only at h F H
         refine wp_ret ?_
         try dsimp only at h
         obtain rfl := Option.some.inj h
         exact RET _ _ (ret1 F rfl rfl ⟨_, rfl, rfl, H.fx1.fx0⟩)
end Go.Proofs.Ytpmkpiffbdcflaa
