/- What the functions compute. Printed by wip/gen. -/
import Derived.Test.YtdkdaggpfgajlaaGL
set_option linter.unusedVariables false
set_option linter.unusedSimpArgs false
namespace Go.Proofs.Ytdkdaggpfgajlaa
open Go Go.RowKit
def law17_RegionBack_b0 (a0 : Int) (a1 : Int) (a2 : List Int) (a3 : List (List Int)) (a4 : List (List Int)) : (Int × (List (List Int)) × disk_Disk) → Option (Int × (List (List Int)) × disk_Disk ⊕ (((List (List Int)) × disk_Disk) ⊕ Bool))
 | (x35, x36, x39) => (if x35 < (a4.length : Int) then (if 0 ≤ x35 ∧ x35 < (a4.length : Int) then ((region_Put_f x39 (IntKind.i64.wrap a0) (IntKind.i64.wrap (300 - (IntKind.i64.wrap a0))) (⟨a1, a2, a3, x36⟩ : api_Region) ((a4.getD (x35 : Int).toNat []))).bind fun (x52, x53) => (((if x52 = 0 then (if 0 ≤ x35 ∧ x35 < (a4.length : Int) then (if (0 + x36.length) * 24 ≤ 140737488355328 then (if (x36.length + 1) * 24 ≤ 140737488355328 then some (.inl ((x36 ++ ([(a4.getD (x35 : Int).toNat [])])))) else none) else none) else none) else (((if x52 ≠ 1 then some ((decide (x52 ≠ 5))) else some false) : Option (Bool)).bind fun x89 => (if x89 = true then some (.inr false) else some (.inl x36)))) : Option ((List (List Int)) ⊕ Bool)).bind fun q => match q with | .inl x55 => ((region_Read_f x53 (IntKind.i64.wrap a0) (IntKind.i64.wrap (300 - (IntKind.i64.wrap a0)))).bind fun (x93, x94) => (if x94 = true then ((ref17_Same_f x93 (⟨a1, a2, a3, x55⟩ : api_Region)).bind fun x104 => (if x104 = true then some (.inl (IntKind.i64.wrap (x35 + 1), x55, x53)) else some (.inr (.inr false)))) else some (.inr (.inr false)))) | .inr r => some (.inr (.inr r)))) else none) else some (.inr (.inl (x36, x39))))
def law17_RegionBack_f (a0 : Int) (a1 : Int) (a2 : List Int) (a3 : List (List Int)) (a4 : List (List Int)) : Option (Bool) :=
 ((law17_head_f).bind fun x1 => (if (a2.length : Int) > 3000 then some x1 else ((law17_Rows_f a3).bind fun x4 => (if x4 = true then some x1 else ((law17_Rows_f a4).bind fun x7 => (if x7 = true then some x1 else ((disk_New_f 300).bind fun x10 => match x10 with | none => some false | some x12 => ((region_Lay_f x12 (IntKind.i64.wrap a0) (IntKind.i64.wrap (300 - (IntKind.i64.wrap a0))) a1 a2 a3).bind fun (x14, x15) => (if x14 ≠ 0 then ((region_Read_f x15 (IntKind.i64.wrap a0) (IntKind.i64.wrap (300 - (IntKind.i64.wrap a0)))).bind fun (x18, x19) => (((if x1 = true then (if x19 = true then some false else ((ref17_Same_f x18 (⟨0, [], [], []⟩ : api_Region)).bind fun x32 => some x32)) else some false) : Option (Bool)).bind fun x28 => some x28)) else ((lp (law17_RegionBack_b0 a0 a1 a2 a3 a4) (0, [], x15)).bind fun q => match q with | .inl (x40, x43) => ((region_Read_f x43 (IntKind.i64.wrap a0) (IntKind.i64.wrap (300 - (IntKind.i64.wrap a0)))).bind fun (x107, x108) => (((if x1 = true then (if x108 = true then ((ref17_Same_f x107 (⟨a1, a2, a3, x40⟩ : api_Region)).bind fun x121 => (if x121 = true then ((region_Greatest_f x43 (IntKind.i64.wrap a0) (IntKind.i64.wrap (300 - (IntKind.i64.wrap a0)))).bind fun x124 => some ((decide (x124 = a1)))) else some false)) else some false) else some false) : Option (Bool)).bind fun x117 => some x117)) | .inr r => some r))))))))))
set_option maxHeartbeats 4000000 in
set_option maxRecDepth 20000 in
theorem law17_RegionBack_ok {w0 w : World} {ps : List PF} {fs : List SF} {a0 : Int} {a1 : Int} {a2 : List Int} {A2_ : Option Addr} {c2_ : Nat} {a3 : List (List Int)} {A3_ : Option Addr} {c3_ : Nat} {a4 : List (List Int)} {A4_ : Option Addr} {c4_ : Nat} {r0 : Bool} (H : Hp w0 (rd kByte A2_ c2_ a2 :: rd (kSlice kByte) A3_ c3_ a3 :: rd (kSlice kByte) A4_ c4_ a4 :: ps) fs w) (h : law17_RegionBack_f a0 a1 a2 a3 a4 = some r0) (ha0 : 0 ≤ a0 ∧ a0 < 256) :
  Calls Try.prog 4 [.int .u8 a0, .int .i64 a1, .slice A2_ a2.length c2_, .slice A3_ a3.length c3_, .slice A4_ a4.length c4_].toArray w fun e w' => ∃ v, e = .returned v ∧ v = .bool r0 ∧ Hp w0 ps fs w' := by
 refine enter [.int .u8 a0, .int .i64 a1, .slice A2_ a2.length c2_, .slice A3_ a3.length c3_, .slice A4_ a4.length c4_] 146 Try.func4 fun Q a NP RET NRM F => ?_
 replace NP : ∀ c a w, ¬ Q (.panic c) a w := fun c a w h => by rcases NP c a w h with h | ⟨w, v, h, _⟩ <;> cases h
 unfold law17_RegionBack_f at h
 refine rg ?_
 refine as_ F (v := .bool false) rfl fun a F => ?_
 refine rgend ?_
 refine rg ?_
 obtain ⟨x1, e2, h⟩ := Option.bind_eq_some_iff.1 h
 try dsimp only at h
 refine ls (call F Try.func9 (law17_head_ok (H) e2) rfl rfl fun v w hR a F => ?_)
 obtain ⟨rfl, H⟩ := hR
 refine as_ F rfl fun a F => ?_
 refine rgend ?_
 refine wp_seq ?_
 refine rg ?_
 refine mv F rfl fun a F => ?_
 refine qw F (r_len (F.t 25 rfl) Try.underlying23) fun a F => ?_
 refine qw F (r_gt (F.t 26 rfl) (F.ev (x := .const (.int .i64 3000)) rfl)) fun a F => ?_
 refine mv F rfl fun a F => ?_
 by_cases c3 : (a2.length : Int) > 3000
 ·rw [if_pos c3] at h
  rw [decide_eq_true c3] at F
  refine of_ F fun a F => ?_
  refine of_ F fun a F => ?_
  refine qw F (r_pickT (F.t 28 rfl) (F.ev (x := .const (.bool true)) rfl)) fun a F => ?_
  refine mv F rfl fun a F => ?_
  refine of_ F fun a F => ?_
  refine of_ F fun a F => ?_
  refine qw F (r_pickT (F.t 32 rfl) (F.ev (x := .const (.bool true)) rfl)) fun a F => ?_
  refine rgend ?_
  replace F := F.only [35, 11, 0, 1, 2, 3, 4] (l' := [(35, .bool true), (11, .bool x1), (0, .int .u8 a0), (1, .int .i64 a1), (2, .slice A2_ a2.length c2_), (3, .slice A3_ a3.length c3_), (4, .slice A4_ a4.length c4_)]) rfl
  refine wp_cond_true (F.ev rfl) ?_
  refine rg ?_
  refine mv F rfl fun a F => ?_
  refine as_ F rfl fun a F => ?_
  refine rgend ?_
  replace F := F.only [10] (l' := [(10, .bool x1)]) rfl
  refine wp_ret ?_
  try dsimp only at h
  obtain rfl := Option.some.inj h
  exact RET _ _ (ret1 F rfl rfl ⟨_, rfl, rfl, H.px2.px1.px0⟩)
 ·rw [if_neg c3] at h
  rw [decide_eq_false c3] at F
  refine mv F rfl fun a F => ?_
  obtain ⟨x4, e5, h⟩ := Option.bind_eq_some_iff.1 h
  try dsimp only at h
  refine ls (call F Try.func17 (law17_Rows_ok (H.p1) e5) rfl rfl fun v w hR a F => ?_)
  obtain ⟨rfl, H⟩ := hR
  refine qw F (r_pickF (F.t 28 rfl) (F.t 30 rfl)) fun a F => ?_
  refine mv F rfl fun a F => ?_
  by_cases c6 : x4 = true
  ·rw [if_pos c6] at h
   rw [c6] at F
   refine of_ F fun a F => ?_
   refine of_ F fun a F => ?_
   refine qw F (r_pickT (F.t 32 rfl) (F.ev (x := .const (.bool true)) rfl)) fun a F => ?_
   refine rgend ?_
   replace F := F.only [35, 11, 0, 1, 2, 3, 4] (l' := [(35, .bool true), (11, .bool x1), (0, .int .u8 a0), (1, .int .i64 a1), (2, .slice A2_ a2.length c2_), (3, .slice A3_ a3.length c3_), (4, .slice A4_ a4.length c4_)]) rfl
   refine wp_cond_true (F.ev rfl) ?_
   refine rg ?_
   refine mv F rfl fun a F => ?_
   refine as_ F rfl fun a F => ?_
   refine rgend ?_
   replace F := F.only [10] (l' := [(10, .bool x1)]) rfl
   refine wp_ret ?_
   try dsimp only at h
   obtain rfl := Option.some.inj h
   exact RET _ _ (ret1 F rfl rfl ⟨_, rfl, rfl, H.px2.px1.px0⟩)
  ·rw [if_neg c6] at h
   rw [Bool.eq_false_iff.2 c6] at F
   refine mv F rfl fun a F => ?_
   obtain ⟨x7, e8, h⟩ := Option.bind_eq_some_iff.1 h
   try dsimp only at h
   refine ls (call F Try.func17 (law17_Rows_ok (H.p2) e8) rfl rfl fun v w hR a F => ?_)
   obtain ⟨rfl, H⟩ := hR
   refine qw F (r_pickF (F.t 32 rfl) (F.t 34 rfl)) fun a F => ?_
   refine rgend ?_
   replace F := F.only [35, 11, 0, 1, 2, 3, 4] (l' := [(35, .bool x7), (11, .bool x1), (0, .int .u8 a0), (1, .int .i64 a1), (2, .slice A2_ a2.length c2_), (3, .slice A3_ a3.length c3_), (4, .slice A4_ a4.length c4_)]) rfl
   by_cases c9 : x7 = true
   ·rw [if_pos c9] at h
    rw [c9] at F
    refine wp_cond_true (F.ev rfl) ?_
    refine rg ?_
    refine mv F rfl fun a F => ?_
    refine as_ F rfl fun a F => ?_
    refine rgend ?_
    replace F := F.only [10] (l' := [(10, .bool x1)]) rfl
    refine wp_ret ?_
    try dsimp only at h
    obtain rfl := Option.some.inj h
    exact RET _ _ (ret1 F rfl rfl ⟨_, rfl, rfl, H.px2.px1.px0⟩)
   ·rw [if_neg c9] at h
    rw [Bool.eq_false_iff.2 c9] at F
    refine wp_cond_false (F.ev rfl) ?_
    refine wp_skip ?_
    refine rg ?_
    obtain ⟨x10, e11, h⟩ := Option.bind_eq_some_iff.1 h
    try dsimp only at h
    rcases x10 with _ | x12
    ·try dsimp only at h
     refine ls (call F Try.func18 (disk_New_ok (H) e11) rfl rfl fun v w hR a F => ?_)
     obtain ⟨rfl, H⟩ := hR
     refine as_ F rfl fun a F => ?_
     refine rgend ?_
     refine wp_seq ?_
     refine rg ?_
     refine mv F rfl fun a F => ?_
     refine qw F (r_peq0 (F.t 38 rfl) (F.ev (x := .const (.pointer none)) rfl) Try.underlying28) fun a F => ?_
     refine rgend ?_
     refine wp_cond_true (F.ev rfl) ?_
     refine rg ?_
     refine as_ F (v := .bool false) rfl fun a F => ?_
     refine rgend ?_
     replace F := F.only [10] (l' := [(10, .bool false)]) rfl
     refine wp_ret ?_
     try dsimp only at h
     obtain rfl := Option.some.inj h
     exact RET _ _ (ret1 F rfl rfl ⟨_, rfl, rfl, H.px2.px1.px0⟩)
    ·try dsimp only at h
     refine ls (call F Try.func18 (disk_New_ok (H) e11) rfl rfl fun v w hR a F => ?_)
     obtain ⟨g13, rfl, H⟩ := hR
     refine as_ F rfl fun a F => ?_
     refine rgend ?_
     refine wp_seq ?_
     refine rg ?_
     refine mv F rfl fun a F => ?_
     refine qw F (r_peq (F.t 38 rfl) (F.ev (x := .const (.pointer none)) rfl) Try.underlying28) fun a F => ?_
     refine rgend ?_
     refine wp_cond_false (F.ev rfl) ?_
     refine wp_skip ?_
     refine rg ?_
     refine mv F rfl fun a F => ?_
     refine qw F (r_ci (F.t 40 rfl) Try.underlying3 Try.underlying5) fun a F => ?_
     refine as_ F rfl fun a F => ?_
     refine rgend ?_
     replace F := F.only [13, 12, 11, 1, 2, 3, 4] (l' := [(13, .int .i64 (IntKind.i64.wrap a0)), (12, .pointer (some ⟨g13, 0, none⟩)), (11, .bool x1), (1, .int .i64 a1), (2, .slice A2_ a2.length c2_), (3, .slice A3_ a3.length c3_), (4, .slice A4_ a4.length c4_)]) rfl
     refine rg ?_
     refine mv F rfl fun a F => ?_
     refine qw F (r_sub (F.ev (x := .const (.int .i64 300)) rfl) (F.t 42 rfl)) fun a F => ?_
     refine as_ F rfl fun a F => ?_
     refine rgend ?_
     refine wp_seq ?_
     refine rg ?_
     refine mv F rfl fun a F => ?_
     refine mv F rfl fun a F => ?_
     refine mv F rfl fun a F => ?_
     refine mv F rfl fun a F => ?_
     refine mv F rfl fun a F => ?_
     refine mv F rfl fun a F => ?_
     obtain ⟨⟨x14, x15⟩, e16, h⟩ := Option.bind_eq_some_iff.1 h
     try dsimp only at h
     refine ls (call F Try.func19 (region_Lay_ok (H.p1.p1) e16) rfl rfl fun v w hR a F => ?_)
     obtain ⟨rfl, H⟩ := hR
     refine qw F (r_ne (F.t 50 rfl) (F.ev (x := .const (.int .i64 0)) rfl)) fun a F => ?_
     refine rgend ?_
     replace F := F.only [51, 14, 13, 12, 11, 1, 2, 3, 4] (l' := [(51, .bool (decide (x14 ≠ 0))), (14, .int .i64 (IntKind.i64.wrap (300 - (IntKind.i64.wrap a0)))), (13, .int .i64 (IntKind.i64.wrap a0)), (12, .pointer (some ⟨g13, 0, none⟩)), (11, .bool x1), (1, .int .i64 a1), (2, .slice A2_ a2.length c2_), (3, .slice A3_ a3.length c3_), (4, .slice A4_ a4.length c4_)]) rfl
     by_cases c17 : x14 ≠ 0
     ·rw [if_pos c17] at h
      rw [decide_eq_true c17] at F
      refine wp_cond_true (F.ev rfl) ?_
      refine rg ?_
      refine mv F rfl fun a F => ?_
      refine mv F rfl fun a F => ?_
      refine mv F rfl fun a F => ?_
      obtain ⟨⟨x18, x19⟩, e20, h⟩ := Option.bind_eq_some_iff.1 h
      try dsimp only at h
      refine ls (call F Try.func12 (region_Read_ok (H) e20) rfl rfl fun v w hR a F => ?_)
      obtain ⟨A21, c22, A23, c24, A25, c26, rfl, H⟩ := hR
      refine mv F rfl fun a F => ?_
      refine qw F (r_ex (F.t 52 rfl) rfl) fun a F => ?_
      refine qw F (r_ex (F.t 52 rfl) rfl) fun a F => ?_
      refine ls (lal F H ti34 (cs := [.int .i64 0, .slice none 0 0, .slice none 0 0, .slice none 0 0]) rfl fun g27 w a H F => ?_)
      obtain ⟨_, hr, H⟩ := Hp.store (t := 34) (o := 0) (n := 4) (vs := [.int .i64 x18.Gen, .slice A21 x18.State.length c22, .slice A23 x18.Kept.length c24, .slice A25 x18.More.length c26]) (cs' := [.int .i64 x18.Gen, .slice A21 x18.State.length c22, .slice A23 x18.Kept.length c24, .slice A25 x18.More.length c26]) (H) (F.t 15 rfl) (F.t 57 rfl) rfl sz34 rfl (Nat.le_of_ble_eq_true rfl) rfl rfl
      refine ls (qn F (.inl rfl) (hr _ _ _ _) fun a F => ?_)
      refine as_ F rfl fun a F => ?_
      refine rgend ?_
      replace F := F.only [16, 15, 11] (l' := [(16, .bool x19), (15, .pointer (some ⟨g27, 0, none⟩)), (11, .bool x1)]) rfl
      refine wp_seq ?_
      obtain ⟨o_28, k_28, h⟩ := Option.bind_eq_some_iff.1 h
      refine cut (fun a w => ∃ (x28 : Bool), x28 = o_28 ∧ Fr 146 [] [(10, .bool x28)] a ∧ Hp w0 ps (obj_disk_Disk g13 x15 :: fs) w) ?_ ?_
      ·skip
       refine wp_region_lit ?_
       refine mv F rfl fun a F => ?_
       refine mv F rfl fun a F => ?_
       by_cases c30 : x1 = true
       ·rw [if_pos c30] at k_28
        rw [c30] at F
        refine mv F rfl fun a F => ?_
        refine qw F (r_not (F.t 61 rfl)) fun a F => ?_
        refine qw F (r_pickT (F.t 60 rfl) (F.t 62 rfl)) fun a F => ?_
        refine mv F rfl fun a F => ?_
        by_cases c31 : x19 = true
        ·rw [if_pos c31] at k_28
         rw [c31] at F
         refine of_ F fun a F => ?_
         refine of_ F fun a F => ?_
         refine of_ F fun a F => ?_
         refine qw F (r_pickF (F.t 64 rfl) (F.ev (x := .const (.bool false)) rfl)) fun a F => ?_
         refine as_ F rfl fun a F => ?_
         refine wpList_nil ?_
         replace F := F.only [10] (l' := [(10, .bool false)]) rfl
         try dsimp only at k_28
         obtain rfl := Option.some.inj k_28
         exact ⟨_, rfl, F.only [10] rfl, H.px4.px3.px2.px1.px0.fx1.fx0⟩
        ·rw [if_neg c31] at k_28
         rw [Bool.eq_false_iff.2 c31] at F
         refine qw F (r_ldA (F.t 15 rfl) (cel_range (o := 0) (n := 4) (vs := [.int .i64 x18.Gen, .slice A21 x18.State.length c22, .slice A23 x18.Kept.length c24, .slice A25 x18.More.length c26]) (H.cell 0 rfl) rfl) agg34 rfl) fun a F => ?_
         refine ls (lbd F (vs := []) (cs := [.int .i64 0, .slice none 0 0, .slice none 0 0, .slice none 0 0]) rfl (fun w => by kernel_rfl) fun a F => ?_)
         replace H := (H.f2.f1.f2).freeze
         replace H := H.nilRd kByte
         replace H := H.nilRd (kSlice kByte)
         obtain ⟨x32, e33, k_28⟩ := Option.bind_eq_some_iff.1 k_28
         try dsimp only at k_28
         refine ls (call F Try.func14 (ref17_Same_ok (a0 := x18) (a1 := (⟨0, [], [], []⟩ : api_Region)) (H.p0.p1.p3.p5.p8.p8) e33) rfl rfl fun v w hR a F => ?_)
         obtain ⟨rfl, H⟩ := hR
         refine qw F (r_pickT (F.t 64 rfl) (F.t 67 rfl)) fun a F => ?_
         refine as_ F rfl fun a F => ?_
         refine wpList_nil ?_
         replace F := F.only [10] (l' := [(10, .bool x32)]) rfl
         try dsimp only at k_28
         obtain rfl := Option.some.inj k_28
         exact ⟨_, rfl, F.only [10] rfl, H.px7.px6.px5.px4.px3.px2.px1.px0.fx0⟩
       ·rw [if_neg c30] at k_28
        rw [Bool.eq_false_iff.2 c30] at F
        refine of_ F fun a F => ?_
        refine of_ F fun a F => ?_
        refine qw F (r_pickF (F.t 60 rfl) (F.ev (x := .const (.bool false)) rfl)) fun a F => ?_
        refine mv F rfl fun a F => ?_
        refine of_ F fun a F => ?_
        refine of_ F fun a F => ?_
        refine of_ F fun a F => ?_
        refine qw F (r_pickF (F.t 64 rfl) (F.ev (x := .const (.bool false)) rfl)) fun a F => ?_
        refine as_ F rfl fun a F => ?_
        refine wpList_nil ?_
        replace F := F.only [10] (l' := [(10, .bool false)]) rfl
        try dsimp only at k_28
        obtain rfl := Option.some.inj k_28
        exact ⟨_, rfl, F.only [10] rfl, H.px4.px3.px2.px1.px0.fx1.fx0⟩
      ·rintro a w ⟨x28, rfl, F, H⟩
       try dsimp only at h F H
       refine wp_ret ?_
       try dsimp only at h
       obtain rfl := Option.some.inj h
       exact RET _ _ (ret1 F rfl rfl ⟨_, rfl, rfl, H.fx0⟩)
     ·rw [if_neg c17] at h
      rw [decide_eq_false c17] at F
      refine wp_cond_false (F.ev rfl) ?_
      refine wp_skip ?_
      refine rg ?_
      refine mv F rfl fun a F => ?_
      refine mv F rfl fun a F => ?_
      refine mv F rfl fun a F => ?_
      refine ls (lbd F (vs := [(0, .int .i64 a1), (1, .slice A2_ a2.length c2_), (2, .slice A3_ a3.length c3_)]) (cs := [.int .i64 a1, .slice A2_ a2.length c2_, .slice A3_ a3.length c3_, .slice none 0 0]) rfl (fun w => by kernel_rfl) fun a F => ?_)
      refine ls (lal F H ti34 (cs := [.int .i64 0, .slice none 0 0, .slice none 0 0, .slice none 0 0]) rfl fun g34 w a H F => ?_)
      obtain ⟨_, hr, H⟩ := Hp.store (t := 34) (o := 0) (n := 4) (vs := [.int .i64 a1, .slice A2_ a2.length c2_, .slice A3_ a3.length c3_, .slice none 0 0]) (cs' := [.int .i64 a1, .slice A2_ a2.length c2_, .slice A3_ a3.length c3_, .slice none 0 0]) (H) (F.t 17 rfl) (F.t 72 rfl) rfl sz34 rfl (Nat.le_of_ble_eq_true rfl) rfl rfl
      refine ls (qn F (.inl rfl) (hr _ _ _ _) fun a F => ?_)
      refine rgend ?_
      replace F := F.only [17, 14, 13, 12, 11, 1, 4] (l' := [(17, .pointer (some ⟨g34, 0, none⟩)), (14, .int .i64 (IntKind.i64.wrap (300 - (IntKind.i64.wrap a0)))), (13, .int .i64 (IntKind.i64.wrap a0)), (12, .pointer (some ⟨g13, 0, none⟩)), (11, .bool x1), (1, .int .i64 a1), (4, .slice A4_ a4.length c4_)]) rfl
      refine wp_seq ?_
      refine rg ?_
      refine as_ F (v := .int .i64 0) rfl fun a F => ?_
      refine rgend ?_
      replace H := H.nilRd (kSlice kByte)
      obtain ⟨o_43, k_43, h⟩ := Option.bind_eq_some_iff.1 h
      refine cut (fun a w => ∃ (x40 : List (List Int)) (x43 : disk_Disk), Sum.inl (x40, x43) = o_43 ∧ ∃ (A41 : Option Addr) (c42 : Nat), Fr 146 [] [(1, .int .i64 a1), (11, .bool x1), (12, .pointer (some ⟨g13, 0, none⟩)), (13, .int .i64 (IntKind.i64.wrap a0)), (14, .int .i64 (IntKind.i64.wrap (300 - (IntKind.i64.wrap a0)))), (17, .pointer (some ⟨g34, 0, none⟩))] a ∧ Hp w0 (rd (kSlice kByte) A41 c42 x40 :: rd kByte A2_ c2_ a2 :: rd (kSlice kByte) A3_ c3_ a3 :: ps) (cel g34 [.int .i64 a1, .slice A2_ a2.length c2_, .slice A3_ a3.length c3_, .slice A41 x40.length c42] 34 :: obj_disk_Disk g13 x43 :: fs) w) (wp_block ?_) ?_
      ·refine wloop (law17_RegionBack_b0 a0 a1 a2 a3 a4) (fun (s : Int × (List (List Int)) × disk_Disk) a w => ∃ (A37 : Option Addr) (c38 : Nat), Fr 146 [] [(1, .int .i64 a1), (4, .slice A4_ a4.length c4_), (11, .bool x1), (12, .pointer (some ⟨g13, 0, none⟩)), (13, .int .i64 (IntKind.i64.wrap a0)), (14, .int .i64 (IntKind.i64.wrap (300 - (IntKind.i64.wrap a0)))), (17, .pointer (some ⟨g34, 0, none⟩)), (18, .int .i64 s.1)] a ∧ Hp w0 (rd (kSlice kByte) A37 c38 s.2.1 :: rd (kSlice kByte) A4_ c4_ a4 :: rd kByte A2_ c2_ a2 :: rd (kSlice kByte) A3_ c3_ a3 :: ps) (cel g34 [.int .i64 a1, .slice A2_ a2.length c2_, .slice A3_ a3.length c3_, .slice A37 s.2.1.length c38] 34 :: obj_disk_Disk g13 s.2.2 :: fs) w) k_43 ⟨none, 0, F.only [1, 4, 11, 12, 13, 14, 17, 18] rfl, H.p2.p2.p5.p3.px4.px4.px4.px4⟩ ?_
       rintro ⟨x35, x36, x39⟩ a w q_43 j_43 u_43 ⟨A37, c38, F, H⟩
       unfold law17_RegionBack_b0 at j_43
       try dsimp only at j_43 F H
       refine wp_seq ?_
       refine rg ?_
       refine mv F rfl fun a F => ?_
       refine mv F rfl fun a F => ?_
       refine qw F (r_len (F.t 74 rfl) Try.underlying32) fun a F => ?_
       refine qw F (r_lt (F.t 73 rfl) (F.t 75 rfl)) fun a F => ?_
       refine rgend ?_
       by_cases c45 : x35 < (a4.length : Int)
       ·rw [if_pos c45] at j_43
        rw [decide_eq_true c45] at F
        refine wp_cond_true (F.ev rfl) ?_
        refine wp_skip ?_
        refine wp_seq ?_
        refine wp_block ?_
        refine wp_seq ?_
        replace H := H.drew
        have HS := H.fx1
        refine dr (fun w => Hp w0 (rd (kSlice kByte) A37 c38 x36 :: rd (kSlice kByte) A4_ c4_ a4 :: rd kByte A2_ c2_ a2 :: rd (kSlice kByte) A3_ c3_ a3 :: ps) (cel g34 [.int .i64 a1, .slice A2_ a2.length c2_, .slice A3_ a3.length c3_, .slice A37 x36.length c38] 34 :: fs) w) _ (by kernel_rfl) ?_ (n := 10)
        refine dq 0 F rfl (by kernel_rfl) NP HS (fun w S => (r_mv (F.t 12 rfl))) fun a F => ?_
        refine dq 1 F rfl (by kernel_rfl) NP HS (fun w S => (r_mv (F.t 13 rfl))) fun a F => ?_
        refine dq 2 F rfl (by kernel_rfl) NP HS (fun w S => (r_mv (F.t 14 rfl))) fun a F => ?_
        refine dq 3 F rfl (by kernel_rfl) NP HS (fun w S => (r_ldA (F.t 17 rfl) (cel_range (o := 0) (n := 4) (vs := [.int .i64 a1, .slice A2_ a2.length c2_, .slice A3_ a3.length c3_, .slice A37 x36.length c38]) (S.cell 0 rfl) rfl) agg34 rfl)) fun a F => ?_
        refine dq 4 F rfl (by kernel_rfl) NP HS (fun w S => (r_mv (F.t 4 rfl))) fun a F => ?_
        refine dq 5 F rfl (by kernel_rfl) NP HS (fun w S => (r_mv (F.t 18 rfl))) fun a F => ?_
        obtain ⟨c46, j_43⟩ := guardO j_43
        obtain ⟨g47, o48, s49, hr, H⟩ := H.ix [] 1 rfl (F.t 83 rfl) (F.t 84 rfl) Try.underlying32 sz23 (by decide) c46.1 c46.2
        obtain ⟨A50, c51, rfl, H⟩ := H.says_slice 1 rfl
        have HS := H.fx1
        refine dmoreH HS (fun w S => S.px2.px1.px0) ?_
        refine dq 6 F rfl (by kernel_rfl) NP HS (fun w S => (hr _ _ _ _ _ _)) fun a F => ?_
        refine dq 7 F rfl (by kernel_rfl) NP HS (fun w S => (r_ld (F.t 85 rfl) (range_cell (j := 0) (S.range 1 rfl) rfl) one23)) fun a F => ?_
        obtain ⟨⟨x52, x53⟩, e54, j_43⟩ := Option.bind_eq_some_iff.1 j_43
        try dsimp only at j_43
        refine d1 8 rfl (by kernel_rfl) (call F Try.func20 (region_Put_ok (a3 := (⟨a1, a2, a3, x36⟩ : api_Region)) (H.p0.f1) e54) rfl rfl fun v w hR a F => ?_)
        obtain ⟨rfl, H⟩ := hR
        have HS := H.fx0
        refine kg _ HS (fun w S => S) ?_
        refine dq 9 F rfl (by kernel_rfl) NP HS (fun w S => (r_as (F.t 87 rfl))) fun a F => ?_
        refine ddone (by kernel_rfl) ?_
        replace F := F.only [19, 1, 4, 11, 12, 13, 14, 17, 18] (l' := [(19, .int .i64 x52), (1, .int .i64 a1), (4, .slice A4_ a4.length c4_), (11, .bool x1), (12, .pointer (some ⟨g13, 0, none⟩)), (13, .int .i64 (IntKind.i64.wrap a0)), (14, .int .i64 (IntKind.i64.wrap (300 - (IntKind.i64.wrap a0)))), (17, .pointer (some ⟨g34, 0, none⟩)), (18, .int .i64 x35)]) rfl
        refine wp_seq ?_
        refine rg ?_
        refine mv F rfl fun a F => ?_
        refine qw F (r_eq (F.t 88 rfl) (F.ev (x := .const (.int .i64 0)) rfl)) fun a F => ?_
        refine rgend ?_
        obtain ⟨o_57, k_57, j_43⟩ := Option.bind_eq_some_iff.1 j_43
        refine cut (fun a w => ∃ (x55 : List (List Int)), Sum.inl x55 = o_57 ∧ ∃ (A56 : Option Addr) (c57 : Nat), Fr 146 [] [(1, .int .i64 a1), (4, .slice A4_ a4.length c4_), (11, .bool x1), (12, .pointer (some ⟨g13, 0, none⟩)), (13, .int .i64 (IntKind.i64.wrap a0)), (14, .int .i64 (IntKind.i64.wrap (300 - (IntKind.i64.wrap a0)))), (17, .pointer (some ⟨g34, 0, none⟩)), (18, .int .i64 x35)] a ∧ Hp w0 (rd (kSlice kByte) A56 c57 x55 :: rd (kSlice kByte) A4_ c4_ a4 :: rd kByte A2_ c2_ a2 :: rd (kSlice kByte) A3_ c3_ a3 :: ps) (cel g34 [.int .i64 a1, .slice A2_ a2.length c2_, .slice A3_ a3.length c3_, .slice A56 x55.length c57] 34 :: obj_disk_Disk g13 x53 :: fs) w) ?_ ?_
        ·skip
         by_cases c59 : x52 = 0
         ·rw [if_pos c59] at k_57
          rw [decide_eq_true c59] at F
          refine wp_cond_true (F.ev rfl) ?_
          replace H := H.drew
          have HS := H.fx0
          refine dr (fun w => Hp w0 (rd kByte A50 c51 ((a4.getD (x35 : Int).toNat [])) :: celz g47 o48 [.slice A50 ((a4.getD (x35 : Int).toNat [])).length c51] :: says (kSlice kByte) [.slice A50 ((a4.getD (x35 : Int).toNat [])).length c51] ((a4.getD (x35 : Int).toNat [])) :: rd (kSlice kByte) A37 c38 x36 :: rd (kSlice kByte) A4_ c4_ a4 :: rd kByte A2_ c2_ a2 :: rd (kSlice kByte) A3_ c3_ a3 :: ps) (cel g34 [.int .i64 a1, .slice A2_ a2.length c2_, .slice A3_ a3.length c3_, .slice A37 x36.length c38] 34 :: fs) w) _ (by kernel_rfl) ?_ (n := 12)
          refine dq 1 F rfl (by kernel_rfl) NP HS (fun w S => (r_fa (off := 3) (F.t 17 rfl) fa34_3)) fun a F => ?_
          refine dq 2 F rfl (by kernel_rfl) NP HS (fun w S => (r_ld (F.t 91 rfl) (cel_cell (o := 3) (S.cell 0 rfl) rfl) one32)) fun a F => ?_
          refine dq 4 F rfl (by kernel_rfl) NP HS (fun w S => (r_mv (F.t 4 rfl))) fun a F => ?_
          refine dq 5 F rfl (by kernel_rfl) NP HS (fun w S => (r_mv (F.t 18 rfl))) fun a F => ?_
          obtain ⟨c60, k_57⟩ := guardO k_57
          obtain ⟨g61, o62, s63, hr, H⟩ := H.ix [] 4 rfl (F.t 94 rfl) (F.t 95 rfl) Try.underlying32 sz23 (by decide) c60.1 c60.2
          obtain ⟨A64, c65, rfl, H⟩ := H.says_slice 1 rfl
          have HS := H.fx0
          refine dmoreH HS (fun w S => S.px2.px1.px0) ?_
          refine dq 6 F rfl (by kernel_rfl) NP HS (fun w S => (hr _ _ _ _ _ _)) fun a F => ?_
          refine dq 7 F rfl (by kernel_rfl) NP HS (fun w S => (r_ld (F.t 96 rfl) (range_cell (j := 0) (S.range 1 rfl) rfl) one23)) fun a F => ?_
          refine d2 0 8 rfl rfl (by kernel_rfl) ?_ ?_
          ·skip
           refine lbs F H (e := 23) (vs := []) (cs := []) rfl (fun w => by kernel_rfl) fun g66 w a H F => ?_
           have HS := H.fx1.fx0
           refine kg _ HS (fun w S => S) ?_
           refine d2 3 8 rfl rfl (by kernel_rfl) ?_ ?_
           ·skip
            replace H := Hp.litOwn (kd := (kSlice kByte)) (xs := []) (H) (SayL.nil) (Nat.le_of_ble_eq_true rfl)
            obtain ⟨c67, k_57⟩ := guardO k_57
            obtain ⟨A68, c69, _, hr, H⟩ := Hp.appendRd (kd := (kSlice kByte)) (xs := []) (ys := x36) (H) 6 rfl (F.t 90 rfl) (F.t 92 rfl) Try.underlying32 ti23 rfl (by decide) (by decide) c67
            rw [List.nil_append] at hr H
            refine qv F (hr _ _ _ _ _) fun a F => ?_
            have HS := H.fx1.fx0
            refine kg _ HS (fun w S => S) ?_
            refine d1 8 rfl (by kernel_rfl) (lbs F H (e := 23) (vs := [(0, .slice A64 ((a4.getD (x35 : Int).toNat [])).length c65)]) (cs := [.slice A64 ((a4.getD (x35 : Int).toNat [])).length c65]) rfl (fun w => by kernel_rfl) fun g70 w a H F => ?_)
            have HS := H.fx2.fx1.fx0
            refine kg _ HS (fun w S => S) ?_
            obtain ⟨c71, k_57⟩ := guardO k_57
            obtain ⟨A72, c73, _, hr, H⟩ := Hp.appendCelL (kd := (kSlice kByte)) (xs := x36) (ys := [(a4.getD (x35 : Int).toNat [])]) (H.f3.f3.f2.f3) (F.t 93 rfl) (F.t 98 rfl) Try.underlying32 ti23 rfl (by decide) (by decide) rfl ((SayL.cons (kd := (kSlice kByte)) (c1 := [.slice A64 ((a4.getD (x35 : Int).toNat [])).length c65]) (y := (a4.getD (x35 : Int).toNat [])) (fun Z hp => ⟨A64, c65, rfl, pat hp 0 rfl⟩) SayL.nil)) c71
            refine d1 9 rfl (by kernel_rfl) (qv F (hr _ _ _ _ _) fun a F => ?_)
            have HS := H.fx1.fx0
            refine kg _ HS (fun w S => S) ?_
            refine dq 10 F rfl (by kernel_rfl) NP HS (fun w S => (r_fa (off := 3) (F.t 17 rfl) fa34_3)) fun a F => ?_
            obtain ⟨_, hr, H⟩ := Hp.store (t := 32) (o := 3) (n := 1) (vs := [.slice A72 ((x36 ++ ([(a4.getD (x35 : Int).toNat [])]))).length c73]) (cs' := [.int .i64 a1, .slice A2_ a2.length c2_, .slice A3_ a3.length c3_, .slice A72 ((x36 ++ ([(a4.getD (x35 : Int).toNat [])]))).length c73]) (H.f1.f1.f2) (F.t 100 rfl) (F.t 99 rfl) rfl sz32 rfl (Nat.le_of_ble_eq_true rfl) rfl rfl
            refine d1 11 rfl (by kernel_rfl) (qn F (.inl rfl) (hr _ _ _ _) fun a F => ?_)
            have HS := H.fx2.fx1
            refine kga (by kernel_rfl) HS ?_
            refine ddone (by kernel_rfl) ?_
            replace F := F.only [1, 4, 11, 12, 13, 14, 17, 18] (l' := [(1, .int .i64 a1), (4, .slice A4_ a4.length c4_), (11, .bool x1), (12, .pointer (some ⟨g13, 0, none⟩)), (13, .int .i64 (IntKind.i64.wrap a0)), (14, .int .i64 (IntKind.i64.wrap (300 - (IntKind.i64.wrap a0)))), (17, .pointer (some ⟨g34, 0, none⟩)), (18, .int .i64 x35)]) rfl
            replace H := (H.f2.f1.f2).freeze
            try dsimp only at k_57
            obtain rfl := Option.some.inj k_57
            exact ⟨_, rfl, A72, c73, F.only [1, 4, 11, 12, 13, 14, 17, 18] rfl, H.px7.px6.px5.px4.px3.px2.px1⟩
           ·skip
            refine lbs F H (e := 23) (vs := [(0, .slice A64 ((a4.getD (x35 : Int).toNat [])).length c65)]) (cs := [.slice A64 ((a4.getD (x35 : Int).toNat [])).length c65]) rfl (fun w => by kernel_rfl) fun g74 w a H F => ?_
            have HS := H.fx2.fx1.fx0
            refine kg _ HS (fun w S => S) ?_
            replace H := Hp.litOwn (kd := (kSlice kByte)) (xs := []) (H.f3.f3.f2.f3) (SayL.nil) (Nat.le_of_ble_eq_true rfl)
            obtain ⟨c75, k_57⟩ := guardO k_57
            obtain ⟨A76, c77, _, hr, H⟩ := Hp.appendRd (kd := (kSlice kByte)) (xs := []) (ys := x36) (H) 6 rfl (F.t 90 rfl) (F.t 92 rfl) Try.underlying32 ti23 rfl (by decide) (by decide) c75
            rw [List.nil_append] at hr H
            refine d1 3 rfl (by kernel_rfl) (qv F (hr _ _ _ _ _) fun a F => ?_)
            have HS := H.fx2.fx1.fx0
            refine kg _ HS (fun w S => S) ?_
            obtain ⟨c78, k_57⟩ := guardO k_57
            obtain ⟨A79, c80, _, hr, H⟩ := Hp.appendCelL (kd := (kSlice kByte)) (xs := x36) (ys := [(a4.getD (x35 : Int).toNat [])]) (H) (F.t 93 rfl) (F.t 98 rfl) Try.underlying32 ti23 rfl (by decide) (by decide) rfl ((SayL.cons (kd := (kSlice kByte)) (c1 := [.slice A64 ((a4.getD (x35 : Int).toNat [])).length c65]) (y := (a4.getD (x35 : Int).toNat [])) (fun Z hp => ⟨A64, c65, rfl, pat hp 0 rfl⟩) SayL.nil)) c78
            refine d1 9 rfl (by kernel_rfl) (qv F (hr _ _ _ _ _) fun a F => ?_)
            have HS := H.fx1.fx0
            refine kg _ HS (fun w S => S) ?_
            refine dq 10 F rfl (by kernel_rfl) NP HS (fun w S => (r_fa (off := 3) (F.t 17 rfl) fa34_3)) fun a F => ?_
            obtain ⟨_, hr, H⟩ := Hp.store (t := 32) (o := 3) (n := 1) (vs := [.slice A79 ((x36 ++ ([(a4.getD (x35 : Int).toNat [])]))).length c80]) (cs' := [.int .i64 a1, .slice A2_ a2.length c2_, .slice A3_ a3.length c3_, .slice A79 ((x36 ++ ([(a4.getD (x35 : Int).toNat [])]))).length c80]) (H.f1.f1.f2) (F.t 100 rfl) (F.t 99 rfl) rfl sz32 rfl (Nat.le_of_ble_eq_true rfl) rfl rfl
            refine d1 11 rfl (by kernel_rfl) (qn F (.inl rfl) (hr _ _ _ _) fun a F => ?_)
            have HS := H.fx2.fx1
            refine kga (by kernel_rfl) HS ?_
            refine ddone (by kernel_rfl) ?_
            replace F := F.only [1, 4, 11, 12, 13, 14, 17, 18] (l' := [(1, .int .i64 a1), (4, .slice A4_ a4.length c4_), (11, .bool x1), (12, .pointer (some ⟨g13, 0, none⟩)), (13, .int .i64 (IntKind.i64.wrap a0)), (14, .int .i64 (IntKind.i64.wrap (300 - (IntKind.i64.wrap a0)))), (17, .pointer (some ⟨g34, 0, none⟩)), (18, .int .i64 x35)]) rfl
            replace H := (H.f2.f1.f2).freeze
            try dsimp only at k_57
            obtain rfl := Option.some.inj k_57
            exact ⟨_, rfl, A79, c80, F.only [1, 4, 11, 12, 13, 14, 17, 18] rfl, H.px7.px6.px5.px4.px3.px2.px1⟩
          ·skip
           refine lbs F H (e := 23) (vs := [(0, .slice A64 ((a4.getD (x35 : Int).toNat [])).length c65)]) (cs := [.slice A64 ((a4.getD (x35 : Int).toNat [])).length c65]) rfl (fun w => by kernel_rfl) fun g81 w a H F => ?_
           have HS := H.fx1.fx0
           refine kg _ HS (fun w S => S) ?_
           refine d1 0 rfl (by kernel_rfl) (lbs F H (e := 23) (vs := []) (cs := []) rfl (fun w => by kernel_rfl) fun g82 w a H F => ?_)
           have HS := H.fx2.fx1.fx0
           refine kg _ HS (fun w S => S) ?_
           replace H := Hp.litOwn (kd := (kSlice kByte)) (xs := []) (H) (SayL.nil) (Nat.le_of_ble_eq_true rfl)
           obtain ⟨c83, k_57⟩ := guardO k_57
           obtain ⟨A84, c85, _, hr, H⟩ := Hp.appendRd (kd := (kSlice kByte)) (xs := []) (ys := x36) (H) 6 rfl (F.t 90 rfl) (F.t 92 rfl) Try.underlying32 ti23 rfl (by decide) (by decide) c83
           rw [List.nil_append] at hr H
           refine d1 3 rfl (by kernel_rfl) (qv F (hr _ _ _ _ _) fun a F => ?_)
           have HS := H.fx2.fx1.fx0
           refine kg _ HS (fun w S => S) ?_
           obtain ⟨c86, k_57⟩ := guardO k_57
           obtain ⟨A87, c88, _, hr, H⟩ := Hp.appendCelL (kd := (kSlice kByte)) (xs := x36) (ys := [(a4.getD (x35 : Int).toNat [])]) (H) (F.t 93 rfl) (F.t 98 rfl) Try.underlying32 ti23 rfl (by decide) (by decide) rfl ((SayL.cons (kd := (kSlice kByte)) (c1 := [.slice A64 ((a4.getD (x35 : Int).toNat [])).length c65]) (y := (a4.getD (x35 : Int).toNat [])) (fun Z hp => ⟨A64, c65, rfl, pat hp 0 rfl⟩) SayL.nil)) c86
           refine d1 9 rfl (by kernel_rfl) (qv F (hr _ _ _ _ _) fun a F => ?_)
           have HS := H.fx1.fx0
           refine kg _ HS (fun w S => S) ?_
           refine dq 10 F rfl (by kernel_rfl) NP HS (fun w S => (r_fa (off := 3) (F.t 17 rfl) fa34_3)) fun a F => ?_
           obtain ⟨_, hr, H⟩ := Hp.store (t := 32) (o := 3) (n := 1) (vs := [.slice A87 ((x36 ++ ([(a4.getD (x35 : Int).toNat [])]))).length c88]) (cs' := [.int .i64 a1, .slice A2_ a2.length c2_, .slice A3_ a3.length c3_, .slice A87 ((x36 ++ ([(a4.getD (x35 : Int).toNat [])]))).length c88]) (H.f1.f1.f2) (F.t 100 rfl) (F.t 99 rfl) rfl sz32 rfl (Nat.le_of_ble_eq_true rfl) rfl rfl
           refine d1 11 rfl (by kernel_rfl) (qn F (.inl rfl) (hr _ _ _ _) fun a F => ?_)
           have HS := H.fx2.fx1
           refine kga (by kernel_rfl) HS ?_
           refine ddone (by kernel_rfl) ?_
           replace F := F.only [1, 4, 11, 12, 13, 14, 17, 18] (l' := [(1, .int .i64 a1), (4, .slice A4_ a4.length c4_), (11, .bool x1), (12, .pointer (some ⟨g13, 0, none⟩)), (13, .int .i64 (IntKind.i64.wrap a0)), (14, .int .i64 (IntKind.i64.wrap (300 - (IntKind.i64.wrap a0)))), (17, .pointer (some ⟨g34, 0, none⟩)), (18, .int .i64 x35)]) rfl
           replace H := (H.f2.f1.f2).freeze
           try dsimp only at k_57
           obtain rfl := Option.some.inj k_57
           exact ⟨_, rfl, A87, c88, F.only [1, 4, 11, 12, 13, 14, 17, 18] rfl, H.px7.px6.px5.px4.px3.px2.px1⟩
         ·rw [if_neg c59] at k_57
          rw [decide_eq_false c59] at F
          refine wp_cond_false (F.ev rfl) ?_
          refine wp_seq ?_
          obtain ⟨o_89, k_89, k_57⟩ := Option.bind_eq_some_iff.1 k_57
          refine cut (fun a w => ∃ (x89 : Bool), x89 = o_89 ∧ Fr 146 [] [(1, .int .i64 a1), (4, .slice A4_ a4.length c4_), (11, .bool x1), (12, .pointer (some ⟨g13, 0, none⟩)), (13, .int .i64 (IntKind.i64.wrap a0)), (14, .int .i64 (IntKind.i64.wrap (300 - (IntKind.i64.wrap a0)))), (17, .pointer (some ⟨g34, 0, none⟩)), (18, .int .i64 x35), (106, .bool x89)] a ∧ Hp w0 (rd (kSlice kByte) A4_ c4_ a4 :: rd kByte A2_ c2_ a2 :: rd (kSlice kByte) A3_ c3_ a3 :: rd (kSlice kByte) A37 c38 x36 :: ps) (cel g34 [.int .i64 a1, .slice A2_ a2.length c2_, .slice A3_ a3.length c3_, .slice A37 x36.length c38] 34 :: obj_disk_Disk g13 x53 :: fs) w) ?_ ?_
          ·skip
           refine wp_region_lit ?_
           refine mv F rfl fun a F => ?_
           refine qw F (r_ne (F.t 101 rfl) (F.ev (x := .const (.int .i64 1)) rfl)) fun a F => ?_
           refine mv F rfl fun a F => ?_
           by_cases c91 : x52 ≠ 1
           ·rw [if_pos c91] at k_89
            rw [decide_eq_true c91] at F
            refine mv F rfl fun a F => ?_
            refine qw F (r_ne (F.t 104 rfl) (F.ev (x := .const (.int .i64 5)) rfl)) fun a F => ?_
            refine qw F (r_pickT (F.t 103 rfl) (F.t 105 rfl)) fun a F => ?_
            refine wpList_nil ?_
            replace F := F.only [106, 1, 4, 11, 12, 13, 14, 17, 18] (l' := [(106, .bool (decide (x52 ≠ 5))), (1, .int .i64 a1), (4, .slice A4_ a4.length c4_), (11, .bool x1), (12, .pointer (some ⟨g13, 0, none⟩)), (13, .int .i64 (IntKind.i64.wrap a0)), (14, .int .i64 (IntKind.i64.wrap (300 - (IntKind.i64.wrap a0)))), (17, .pointer (some ⟨g34, 0, none⟩)), (18, .int .i64 x35)]) rfl
            try dsimp only at k_89
            obtain rfl := Option.some.inj k_89
            exact ⟨_, rfl, F.only [1, 4, 11, 12, 13, 14, 17, 18, 106] rfl, H.p3.p7.p7.p7.px4.px4.px4.px4.px4.px4.px4.f1⟩
           ·rw [if_neg c91] at k_89
            rw [decide_eq_false c91] at F
            refine of_ F fun a F => ?_
            refine of_ F fun a F => ?_
            refine qw F (r_pickF (F.t 103 rfl) (F.ev (x := .const (.bool false)) rfl)) fun a F => ?_
            refine wpList_nil ?_
            replace F := F.only [106, 1, 4, 11, 12, 13, 14, 17, 18] (l' := [(106, .bool false), (1, .int .i64 a1), (4, .slice A4_ a4.length c4_), (11, .bool x1), (12, .pointer (some ⟨g13, 0, none⟩)), (13, .int .i64 (IntKind.i64.wrap a0)), (14, .int .i64 (IntKind.i64.wrap (300 - (IntKind.i64.wrap a0)))), (17, .pointer (some ⟨g34, 0, none⟩)), (18, .int .i64 x35)]) rfl
            try dsimp only at k_89
            obtain rfl := Option.some.inj k_89
            exact ⟨_, rfl, F.only [1, 4, 11, 12, 13, 14, 17, 18, 106] rfl, H.p3.p7.p7.p7.px4.px4.px4.px4.px4.px4.px4.f1⟩
          ·rintro a w ⟨x89, rfl, F, H⟩
           try dsimp only at k_57 F H
           by_cases c92 : x89 = true
           ·rw [if_pos c92] at k_57
            rw [c92] at F
            refine wp_cond_true (F.ev rfl) ?_
            refine rg ?_
            refine as_ F (v := .bool false) rfl fun a F => ?_
            refine rgend ?_
            replace F := F.only [10] (l' := [(10, .bool false)]) rfl
            refine wp_ret ?_
            try dsimp only at k_57
            obtain rfl := Option.some.inj k_57
            try dsimp only at j_43
            obtain rfl := Option.some.inj j_43
            obtain rfl := u_43 _ rfl
            try dsimp only at h
            obtain rfl := Option.some.inj h
            exact RET _ _ (ret1 F rfl rfl ⟨_, rfl, rfl, H.px3.px2.px1.px0.fx1.fx0⟩)
           ·rw [if_neg c92] at k_57
            rw [Bool.eq_false_iff.2 c92] at F
            refine wp_cond_false (F.ev rfl) ?_
            refine wp_skip ?_
            try dsimp only at k_57
            obtain rfl := Option.some.inj k_57
            exact ⟨_, rfl, A37, c38, F.only [1, 4, 11, 12, 13, 14, 17, 18] rfl, H.p2.p2.p2.p6.px4.px4.px4.px4⟩
        ·rintro a w ⟨x55, rfl, A56, c57, F, H⟩
         try dsimp only at j_43 F H
         refine rg ?_
         refine mv F rfl fun a F => ?_
         refine mv F rfl fun a F => ?_
         refine mv F rfl fun a F => ?_
         obtain ⟨⟨x93, x94⟩, e95, j_43⟩ := Option.bind_eq_some_iff.1 j_43
         try dsimp only at j_43
         refine ls (call F Try.func12 (region_Read_ok (H.f1) e95) rfl rfl fun v w hR a F => ?_)
         obtain ⟨A96, c97, A98, c99, A100, c101, rfl, H⟩ := hR
         refine mv F rfl fun a F => ?_
         refine qw F (r_ex (F.t 107 rfl) rfl) fun a F => ?_
         refine qw F (r_ex (F.t 107 rfl) rfl) fun a F => ?_
         refine ls (lal F H ti34 (cs := [.int .i64 0, .slice none 0 0, .slice none 0 0, .slice none 0 0]) rfl fun g102 w a H F => ?_)
         obtain ⟨_, hr, H⟩ := Hp.store (t := 34) (o := 0) (n := 4) (vs := [.int .i64 x93.Gen, .slice A96 x93.State.length c97, .slice A98 x93.Kept.length c99, .slice A100 x93.More.length c101]) (cs' := [.int .i64 x93.Gen, .slice A96 x93.State.length c97, .slice A98 x93.Kept.length c99, .slice A100 x93.More.length c101]) (H) (F.t 20 rfl) (F.t 112 rfl) rfl sz34 rfl (Nat.le_of_ble_eq_true rfl) rfl rfl
         refine ls (qn F (.inl rfl) (hr _ _ _ _) fun a F => ?_)
         refine as_ F rfl fun a F => ?_
         refine rgend ?_
         replace F := F.only [21, 20, 1, 4, 11, 12, 13, 14, 17, 18] (l' := [(21, .bool x94), (20, .pointer (some ⟨g102, 0, none⟩)), (1, .int .i64 a1), (4, .slice A4_ a4.length c4_), (11, .bool x1), (12, .pointer (some ⟨g13, 0, none⟩)), (13, .int .i64 (IntKind.i64.wrap a0)), (14, .int .i64 (IntKind.i64.wrap (300 - (IntKind.i64.wrap a0)))), (17, .pointer (some ⟨g34, 0, none⟩)), (18, .int .i64 x35)]) rfl
         refine rg ?_
         refine mv F rfl fun a F => ?_
         refine qw F (r_not (F.t 114 rfl)) fun a F => ?_
         refine mv F rfl fun a F => ?_
         by_cases c103 : x94 = true
         ·rw [if_pos c103] at j_43
          rw [c103] at F
          refine qw F (r_ldA (F.t 20 rfl) (cel_range (o := 0) (n := 4) (vs := [.int .i64 x93.Gen, .slice A96 x93.State.length c97, .slice A98 x93.Kept.length c99, .slice A100 x93.More.length c101]) (H.cell 0 rfl) rfl) agg34 rfl) fun a F => ?_
          refine qw F (r_ldA (F.t 17 rfl) (cel_range (o := 0) (n := 4) (vs := [.int .i64 a1, .slice A2_ a2.length c2_, .slice A3_ a3.length c3_, .slice A56 x55.length c57]) (H.cell 3 rfl) rfl) agg34 rfl) fun a F => ?_
          replace H := (H.f3.f3.f2.f3).freeze
          obtain ⟨x104, e105, j_43⟩ := Option.bind_eq_some_iff.1 j_43
          try dsimp only at j_43
          refine ls (call F Try.func14 (ref17_Same_ok (a0 := x93) (a1 := (⟨a1, a2, a3, x55⟩ : api_Region)) (H.p3.p7.p7.p3.p6.p6) e105) rfl rfl fun v w hR a F => ?_)
          obtain ⟨rfl, H⟩ := hR
          refine qw F (r_not (F.t 119 rfl)) fun a F => ?_
          refine qw F (r_pickF (F.t 116 rfl) (F.t 120 rfl)) fun a F => ?_
          refine rgend ?_
          replace F := F.only [121, 1, 4, 11, 12, 13, 14, 17, 18] (l' := [(121, .bool (!x104)), (1, .int .i64 a1), (4, .slice A4_ a4.length c4_), (11, .bool x1), (12, .pointer (some ⟨g13, 0, none⟩)), (13, .int .i64 (IntKind.i64.wrap a0)), (14, .int .i64 (IntKind.i64.wrap (300 - (IntKind.i64.wrap a0)))), (17, .pointer (some ⟨g34, 0, none⟩)), (18, .int .i64 x35)]) rfl
          by_cases c106 : x104 = true
          ·rw [if_pos c106] at j_43
           rw [c106] at F
           refine wp_cond_false (F.ev rfl) ?_
           refine wp_skip ?_
           refine wp_region_lit ?_
           refine mv F rfl fun a F => ?_
           refine qw F (r_add (F.t 77 rfl) (F.ev (x := .const (.int .i64 1)) rfl)) fun a F => ?_
           refine as_ F rfl fun a F => ?_
           refine wpList_nil ?_
           replace F := F.only [18, 1, 4, 11, 12, 13, 14, 17] (l' := [(18, .int .i64 (IntKind.i64.wrap (x35 + 1))), (1, .int .i64 a1), (4, .slice A4_ a4.length c4_), (11, .bool x1), (12, .pointer (some ⟨g13, 0, none⟩)), (13, .int .i64 (IntKind.i64.wrap a0)), (14, .int .i64 (IntKind.i64.wrap (300 - (IntKind.i64.wrap a0)))), (17, .pointer (some ⟨g34, 0, none⟩))]) rfl
           try dsimp only at j_43
           obtain rfl := Option.some.inj j_43
           exact ⟨_, rfl, A56, c57, F.only [1, 4, 11, 12, 13, 14, 17, 18] rfl, H.px2.px1.px0.f1.f2.fx2⟩
          ·rw [if_neg c106] at j_43
           rw [Bool.eq_false_iff.2 c106] at F
           refine wp_cond_true (F.ev rfl) ?_
           refine rg ?_
           refine as_ F (v := .bool false) rfl fun a F => ?_
           refine rgend ?_
           replace F := F.only [10] (l' := [(10, .bool false)]) rfl
           refine wp_ret ?_
           try dsimp only at j_43
           obtain rfl := Option.some.inj j_43
           obtain rfl := u_43 _ rfl
           try dsimp only at h
           obtain rfl := Option.some.inj h
           exact RET _ _ (ret1 F rfl rfl ⟨_, rfl, rfl, H.px6.px5.px4.px3.px2.px1.px0.fx2.fx1.fx0⟩)
         ·rw [if_neg c103] at j_43
          rw [Bool.eq_false_iff.2 c103] at F
          refine of_ F fun a F => ?_
          refine of_ F fun a F => ?_
          refine of_ F fun a F => ?_
          refine of_ F fun a F => ?_
          refine qw F (r_pickT (F.t 116 rfl) (F.ev (x := .const (.bool true)) rfl)) fun a F => ?_
          refine rgend ?_
          replace F := F.only [121, 1, 4, 11, 12, 13, 14, 17, 18] (l' := [(121, .bool true), (1, .int .i64 a1), (4, .slice A4_ a4.length c4_), (11, .bool x1), (12, .pointer (some ⟨g13, 0, none⟩)), (13, .int .i64 (IntKind.i64.wrap a0)), (14, .int .i64 (IntKind.i64.wrap (300 - (IntKind.i64.wrap a0)))), (17, .pointer (some ⟨g34, 0, none⟩)), (18, .int .i64 x35)]) rfl
          refine wp_cond_true (F.ev rfl) ?_
          refine rg ?_
          refine as_ F (v := .bool false) rfl fun a F => ?_
          refine rgend ?_
          replace F := F.only [10] (l' := [(10, .bool false)]) rfl
          refine wp_ret ?_
          try dsimp only at j_43
          obtain rfl := Option.some.inj j_43
          obtain rfl := u_43 _ rfl
          try dsimp only at h
          obtain rfl := Option.some.inj h
          exact RET _ _ (ret1 F rfl rfl ⟨_, rfl, rfl, H.px5.px4.px3.px2.px1.px0.fx3.fx2.fx1.fx0⟩)
       ·rw [if_neg c45] at j_43
        rw [decide_eq_false c45] at F
        refine wp_cond_false (F.ev rfl) ?_
        refine wp_exit ?_
        try dsimp only at j_43
        obtain rfl := Option.some.inj j_43
        obtain rfl := u_43 _ rfl
        repeat (with_reducible refine exT ?_)
        with_reducible refine exB ?_
        exact ⟨_, _, rfl, A37, c38, F.only [1, 11, 12, 13, 14, 17] rfl, H.px1⟩
      ·rintro a w ⟨x40, x43, rfl, A41, c42, F, H⟩
       try dsimp only at h F H
       refine rg ?_
       refine mv F rfl fun a F => ?_
       refine mv F rfl fun a F => ?_
       refine mv F rfl fun a F => ?_
       obtain ⟨⟨x107, x108⟩, e109, h⟩ := Option.bind_eq_some_iff.1 h
       try dsimp only at h
       refine ls (call F Try.func12 (region_Read_ok (H.f1) e109) rfl rfl fun v w hR a F => ?_)
       obtain ⟨A110, c111, A112, c113, A114, c115, rfl, H⟩ := hR
       refine mv F rfl fun a F => ?_
       refine qw F (r_ex (F.t 122 rfl) rfl) fun a F => ?_
       refine qw F (r_ex (F.t 122 rfl) rfl) fun a F => ?_
       refine ls (lal F H ti34 (cs := [.int .i64 0, .slice none 0 0, .slice none 0 0, .slice none 0 0]) rfl fun g116 w a H F => ?_)
       obtain ⟨_, hr, H⟩ := Hp.store (t := 34) (o := 0) (n := 4) (vs := [.int .i64 x107.Gen, .slice A110 x107.State.length c111, .slice A112 x107.Kept.length c113, .slice A114 x107.More.length c115]) (cs' := [.int .i64 x107.Gen, .slice A110 x107.State.length c111, .slice A112 x107.Kept.length c113, .slice A114 x107.More.length c115]) (H) (F.t 22 rfl) (F.t 127 rfl) rfl sz34 rfl (Nat.le_of_ble_eq_true rfl) rfl rfl
       refine ls (qn F (.inl rfl) (hr _ _ _ _) fun a F => ?_)
       refine as_ F rfl fun a F => ?_
       refine rgend ?_
       replace F := F.only [23, 22, 1, 11, 12, 13, 14, 17] (l' := [(23, .bool x108), (22, .pointer (some ⟨g116, 0, none⟩)), (1, .int .i64 a1), (11, .bool x1), (12, .pointer (some ⟨g13, 0, none⟩)), (13, .int .i64 (IntKind.i64.wrap a0)), (14, .int .i64 (IntKind.i64.wrap (300 - (IntKind.i64.wrap a0)))), (17, .pointer (some ⟨g34, 0, none⟩))]) rfl
       refine wp_seq ?_
       obtain ⟨o_117, k_117, h⟩ := Option.bind_eq_some_iff.1 h
       refine cut (fun a w => ∃ (x117 : Bool), x117 = o_117 ∧ Fr 146 [] [(10, .bool x117)] a ∧ Hp w0 ps (obj_disk_Disk g13 x43 :: fs) w) ?_ ?_
       ·skip
        refine wp_region_lit ?_
        refine mv F rfl fun a F => ?_
        refine mv F rfl fun a F => ?_
        by_cases c119 : x1 = true
        ·rw [if_pos c119] at k_117
         rw [c119] at F
         refine mv F rfl fun a F => ?_
         refine qw F (r_pickT (F.t 130 rfl) (F.t 131 rfl)) fun a F => ?_
         refine mv F rfl fun a F => ?_
         by_cases c120 : x108 = true
         ·rw [if_pos c120] at k_117
          rw [c120] at F
          refine qw F (r_ldA (F.t 22 rfl) (cel_range (o := 0) (n := 4) (vs := [.int .i64 x107.Gen, .slice A110 x107.State.length c111, .slice A112 x107.Kept.length c113, .slice A114 x107.More.length c115]) (H.cell 0 rfl) rfl) agg34 rfl) fun a F => ?_
          refine qw F (r_ldA (F.t 17 rfl) (cel_range (o := 0) (n := 4) (vs := [.int .i64 a1, .slice A2_ a2.length c2_, .slice A3_ a3.length c3_, .slice A41 x40.length c42]) (H.cell 3 rfl) rfl) agg34 rfl) fun a F => ?_
          replace H := (H.f3.f3.f2.f3).freeze
          obtain ⟨x121, e122, k_117⟩ := Option.bind_eq_some_iff.1 k_117
          try dsimp only at k_117
          refine ls (call F Try.func14 (ref17_Same_ok (a0 := x107) (a1 := (⟨a1, a2, a3, x40⟩ : api_Region)) (H.p3.p6.p6.p3.p6.p6) e122) rfl rfl fun v w hR a F => ?_)
          obtain ⟨rfl, H⟩ := hR
          refine qw F (r_pickT (F.t 133 rfl) (F.t 136 rfl)) fun a F => ?_
          refine mv F rfl fun a F => ?_
          by_cases c123 : x121 = true
          ·rw [if_pos c123] at k_117
           rw [c123] at F
           refine mv F rfl fun a F => ?_
           refine mv F rfl fun a F => ?_
           refine mv F rfl fun a F => ?_
           obtain ⟨x124, e125, k_117⟩ := Option.bind_eq_some_iff.1 k_117
           try dsimp only at k_117
           refine ls (call F Try.func15 (region_Greatest_ok (H.f2.f1.f2) e125) rfl rfl fun v w hR a F => ?_)
           obtain ⟨rfl, H⟩ := hR
           refine mv F rfl fun a F => ?_
           refine qw F (r_eq (F.t 142 rfl) (F.t 143 rfl)) fun a F => ?_
           refine qw F (r_pickT (F.t 138 rfl) (F.t 144 rfl)) fun a F => ?_
           refine as_ F rfl fun a F => ?_
           refine wpList_nil ?_
           replace F := F.only [10] (l' := [(10, .bool (decide (x124 = a1)))]) rfl
           try dsimp only at k_117
           obtain rfl := Option.some.inj k_117
           exact ⟨_, rfl, F.only [10] rfl, H.px5.px4.px3.px2.px1.px0.fx2.fx1⟩
          ·rw [if_neg c123] at k_117
           rw [Bool.eq_false_iff.2 c123] at F
           refine of_ F fun a F => ?_
           refine of_ F fun a F => ?_
           refine of_ F fun a F => ?_
           refine of_ F fun a F => ?_
           refine of_ F fun a F => ?_
           refine of_ F fun a F => ?_
           refine qw F (r_pickF (F.t 138 rfl) (F.ev (x := .const (.bool false)) rfl)) fun a F => ?_
           refine as_ F rfl fun a F => ?_
           refine wpList_nil ?_
           replace F := F.only [10] (l' := [(10, .bool false)]) rfl
           try dsimp only at k_117
           obtain rfl := Option.some.inj k_117
           exact ⟨_, rfl, F.only [10] rfl, H.px5.px4.px3.px2.px1.px0.fx2.fx0⟩
         ·rw [if_neg c120] at k_117
          rw [Bool.eq_false_iff.2 c120] at F
          refine of_ F fun a F => ?_
          refine of_ F fun a F => ?_
          refine of_ F fun a F => ?_
          refine qw F (r_pickF (F.t 133 rfl) (F.ev (x := .const (.bool false)) rfl)) fun a F => ?_
          refine mv F rfl fun a F => ?_
          refine of_ F fun a F => ?_
          refine of_ F fun a F => ?_
          refine of_ F fun a F => ?_
          refine of_ F fun a F => ?_
          refine of_ F fun a F => ?_
          refine of_ F fun a F => ?_
          refine qw F (r_pickF (F.t 138 rfl) (F.ev (x := .const (.bool false)) rfl)) fun a F => ?_
          refine as_ F rfl fun a F => ?_
          refine wpList_nil ?_
          replace F := F.only [10] (l' := [(10, .bool false)]) rfl
          try dsimp only at k_117
          obtain rfl := Option.some.inj k_117
          exact ⟨_, rfl, F.only [10] rfl, H.px4.px3.px2.px1.px0.fx3.fx1.fx0⟩
        ·rw [if_neg c119] at k_117
         rw [Bool.eq_false_iff.2 c119] at F
         refine of_ F fun a F => ?_
         refine qw F (r_pickF (F.t 130 rfl) (F.ev (x := .const (.bool false)) rfl)) fun a F => ?_
         refine mv F rfl fun a F => ?_
         refine of_ F fun a F => ?_
         refine of_ F fun a F => ?_
         refine of_ F fun a F => ?_
         refine qw F (r_pickF (F.t 133 rfl) (F.ev (x := .const (.bool false)) rfl)) fun a F => ?_
         refine mv F rfl fun a F => ?_
         refine of_ F fun a F => ?_
         refine of_ F fun a F => ?_
         refine of_ F fun a F => ?_
         refine of_ F fun a F => ?_
         refine of_ F fun a F => ?_
         refine of_ F fun a F => ?_
         refine qw F (r_pickF (F.t 138 rfl) (F.ev (x := .const (.bool false)) rfl)) fun a F => ?_
         refine as_ F rfl fun a F => ?_
         refine wpList_nil ?_
         replace F := F.only [10] (l' := [(10, .bool false)]) rfl
         try dsimp only at k_117
         obtain rfl := Option.some.inj k_117
         exact ⟨_, rfl, F.only [10] rfl, H.px4.px3.px2.px1.px0.fx3.fx1.fx0⟩
       ·rintro a w ⟨x117, rfl, F, H⟩
        try dsimp only at h F H
        refine wp_ret ?_
        try dsimp only at h
        obtain rfl := Option.some.inj h
        exact RET _ _ (ret1 F rfl rfl ⟨_, rfl, rfl, H.fx0⟩)
end Go.Proofs.Ytdkdaggpfgajlaa
