/- What the functions compute. Printed by wip/gen. -/
import Derived.Test.YtdkdaggpfgajlaaGL
set_option linter.unusedVariables false
set_option linter.unusedSimpArgs false
namespace Go.Proofs.Ytdkdaggpfgajlaa
open Go Go.RowKit
def law17_RegionStale_f (a0 : Int) (a1 : Int) (a2 : List Int) (a3 : List Int) (a4 : List (List Int)) (a5 : List Int) : Option (Bool) :=
 ((law17_head_f).bind fun x1 => (if (a2.length : Int) > 3000 then some x1 else (if (a3.length : Int) > 3000 then some x1 else ((law17_Rows_f a4).bind fun x5 => (if x5 = true then some x1 else (if (a5.length : Int) > 900 then some x1 else (if (IntKind.i64.wrap (1 + (IntKind.i64.wrap a0))) = (IntKind.i64.wrap (1 + (IntKind.i64.wrap a1))) then some x1 else ((disk_New_f 300).bind fun x10 => match x10 with | none => some false | some x12 => ((region_Lay_f x12 0 300 (IntKind.i64.wrap (1 + (IntKind.i64.wrap a1))) a3 a4).bind fun (x14, x15) => ((disk_Disk_Sync_f x15).bind fun (x17, x18) => ((region_Lay_f x18 0 300 (IntKind.i64.wrap (1 + (IntKind.i64.wrap a0))) a2 []).bind fun (x20, x21) => (if x20 ≠ 0 then some x1 else ((region_Read_f x21 0 300).bind fun (x24, x25) => (if x25 = true then ((ref17_Same_f x24 ((⟨IntKind.i64.wrap (1 + (IntKind.i64.wrap a0)), a2, [], []⟩ : api_Region))).bind fun x35 => (if x35 = true then ((region_Put_f x21 0 300 x24 a5).bind fun (x38, x39) => ((region_Read_f x39 0 300).bind fun (x41, x42) => (if x38 ≠ 0 then (((if x1 = true then (if x38 = 1 then (if x42 = true then ((ref17_Same_f x41 x24).bind fun x57 => some x57) else some false) else some false) else some false) : Option (Bool)).bind fun x52 => some x52) else (((if x1 = true then (if x42 = true then ((ref17_Same_f x41 ((⟨IntKind.i64.wrap (1 + (IntKind.i64.wrap a0)), a2, [], [a5]⟩ : api_Region))).bind fun x64 => some x64) else some false) else some false) : Option (Bool)).bind fun x59 => some x59)))) else some false)) else some false))))))))))))))
set_option maxHeartbeats 4000000 in
set_option maxRecDepth 20000 in
theorem law17_RegionStale_ok {w0 w : World} {ps : List PF} {fs : List SF} {a0 : Int} {a1 : Int} {a2 : List Int} {A2_ : Option Addr} {c2_ : Nat} {a3 : List Int} {A3_ : Option Addr} {c3_ : Nat} {a4 : List (List Int)} {A4_ : Option Addr} {c4_ : Nat} {a5 : List Int} {A5_ : Option Addr} {c5_ : Nat} {r0 : Bool} (H : Hp w0 (rd kByte A2_ c2_ a2 :: rd kByte A3_ c3_ a3 :: rd (kSlice kByte) A4_ c4_ a4 :: rd kByte A5_ c5_ a5 :: ps) fs w) (h : law17_RegionStale_f a0 a1 a2 a3 a4 a5 = some r0) :
  Calls Try.prog 8 [.int .u16 a0, .int .u16 a1, .slice A2_ a2.length c2_, .slice A3_ a3.length c3_, .slice A4_ a4.length c4_, .slice A5_ a5.length c5_].toArray w fun e w' => ∃ v, e = .returned v ∧ v = .bool r0 ∧ Hp w0 ps fs w' := by
 refine enter [.int .u16 a0, .int .u16 a1, .slice A2_ a2.length c2_, .slice A3_ a3.length c3_, .slice A4_ a4.length c4_, .slice A5_ a5.length c5_] 120 Try.func8 fun Q a NP RET NRM F => ?_
 replace NP : ∀ c a w, ¬ Q (.panic c) a w := fun c a w h => by rcases NP c a w h with h | ⟨w, v, h, _⟩ <;> cases h
 unfold law17_RegionStale_f at h
 refine rg ?_
 refine as_ F (v := .bool false) rfl fun a F => ?_
 refine rgend ?_
 refine rg ?_
 obtain ⟨x1, e2, h⟩ := Option.bind_eq_some_iff.1 h
 try dsimp only at h
 refine ls (call F Try.func9 (law17_head_ok (H) e2) rfl rfl fun v w hR a F => ?_)
 obtain ⟨rfl, H⟩ := hR
 refine as_ F rfl fun a F => ?_
 refine rgend ?_
 refine rg ?_
 refine mv F rfl fun a F => ?_
 refine qw F (r_ci (F.t 23 rfl) Try.underlying2 Try.underlying48) fun a F => ?_
 refine qw F (r_add (F.ev (x := .const (.int .i64 1)) rfl) (F.t 24 rfl)) fun a F => ?_
 refine as_ F rfl fun a F => ?_
 refine rgend ?_
 replace F := F.only [14, 13, 1, 2, 3, 4, 5] (l' := [(14, .int .i64 (IntKind.i64.wrap (1 + (IntKind.i64.wrap a0)))), (13, .bool x1), (1, .int .u16 a1), (2, .slice A2_ a2.length c2_), (3, .slice A3_ a3.length c3_), (4, .slice A4_ a4.length c4_), (5, .slice A5_ a5.length c5_)]) rfl
 refine rg ?_
 refine mv F rfl fun a F => ?_
 refine qw F (r_ci (F.t 26 rfl) Try.underlying2 Try.underlying48) fun a F => ?_
 refine qw F (r_add (F.ev (x := .const (.int .i64 1)) rfl) (F.t 27 rfl)) fun a F => ?_
 refine as_ F rfl fun a F => ?_
 refine rgend ?_
 replace F := F.only [15, 14, 13, 2, 3, 4, 5] (l' := [(15, .int .i64 (IntKind.i64.wrap (1 + (IntKind.i64.wrap a1)))), (14, .int .i64 (IntKind.i64.wrap (1 + (IntKind.i64.wrap a0)))), (13, .bool x1), (2, .slice A2_ a2.length c2_), (3, .slice A3_ a3.length c3_), (4, .slice A4_ a4.length c4_), (5, .slice A5_ a5.length c5_)]) rfl
 refine wp_seq ?_
 refine rg ?_
 refine mv F rfl fun a F => ?_
 refine qw F (r_len (F.t 29 rfl) Try.underlying23) fun a F => ?_
 refine qw F (r_gt (F.t 30 rfl) (F.ev (x := .const (.int .i64 3000)) rfl)) fun a F => ?_
 refine mv F rfl fun a F => ?_
 by_cases c3 : (a2.length : Int) > 3000
 ·rw [if_pos c3] at h
  rw [decide_eq_true c3] at F
  refine of_ F fun a F => ?_
  refine of_ F fun a F => ?_
  refine of_ F fun a F => ?_
  refine qw F (r_pickT (F.t 32 rfl) (F.ev (x := .const (.bool true)) rfl)) fun a F => ?_
  refine mv F rfl fun a F => ?_
  refine of_ F fun a F => ?_
  refine of_ F fun a F => ?_
  refine qw F (r_pickT (F.t 37 rfl) (F.ev (x := .const (.bool true)) rfl)) fun a F => ?_
  refine mv F rfl fun a F => ?_
  refine of_ F fun a F => ?_
  refine of_ F fun a F => ?_
  refine of_ F fun a F => ?_
  refine qw F (r_pickT (F.t 41 rfl) (F.ev (x := .const (.bool true)) rfl)) fun a F => ?_
  refine mv F rfl fun a F => ?_
  refine of_ F fun a F => ?_
  refine of_ F fun a F => ?_
  refine of_ F fun a F => ?_
  refine qw F (r_pickT (F.t 46 rfl) (F.ev (x := .const (.bool true)) rfl)) fun a F => ?_
  refine rgend ?_
  replace F := F.only [50, 15, 14, 13, 2, 3, 4, 5] (l' := [(50, .bool true), (15, .int .i64 (IntKind.i64.wrap (1 + (IntKind.i64.wrap a1)))), (14, .int .i64 (IntKind.i64.wrap (1 + (IntKind.i64.wrap a0)))), (13, .bool x1), (2, .slice A2_ a2.length c2_), (3, .slice A3_ a3.length c3_), (4, .slice A4_ a4.length c4_), (5, .slice A5_ a5.length c5_)]) rfl
  refine wp_cond_true (F.ev rfl) ?_
  refine rg ?_
  refine mv F rfl fun a F => ?_
  refine as_ F rfl fun a F => ?_
  refine rgend ?_
  replace F := F.only [12] (l' := [(12, .bool x1)]) rfl
  refine wp_ret ?_
  try dsimp only at h
  obtain rfl := Option.some.inj h
  exact RET _ _ (ret1 F rfl rfl ⟨_, rfl, rfl, H.px3.px2.px1.px0⟩)
 ·rw [if_neg c3] at h
  rw [decide_eq_false c3] at F
  refine mv F rfl fun a F => ?_
  refine qw F (r_len (F.t 33 rfl) Try.underlying23) fun a F => ?_
  refine qw F (r_gt (F.t 34 rfl) (F.ev (x := .const (.int .i64 3000)) rfl)) fun a F => ?_
  refine qw F (r_pickF (F.t 32 rfl) (F.t 35 rfl)) fun a F => ?_
  refine mv F rfl fun a F => ?_
  by_cases c4 : (a3.length : Int) > 3000
  ·rw [if_pos c4] at h
   rw [decide_eq_true c4] at F
   refine of_ F fun a F => ?_
   refine of_ F fun a F => ?_
   refine qw F (r_pickT (F.t 37 rfl) (F.ev (x := .const (.bool true)) rfl)) fun a F => ?_
   refine mv F rfl fun a F => ?_
   refine of_ F fun a F => ?_
   refine of_ F fun a F => ?_
   refine of_ F fun a F => ?_
   refine qw F (r_pickT (F.t 41 rfl) (F.ev (x := .const (.bool true)) rfl)) fun a F => ?_
   refine mv F rfl fun a F => ?_
   refine of_ F fun a F => ?_
   refine of_ F fun a F => ?_
   refine of_ F fun a F => ?_
   refine qw F (r_pickT (F.t 46 rfl) (F.ev (x := .const (.bool true)) rfl)) fun a F => ?_
   refine rgend ?_
   replace F := F.only [50, 15, 14, 13, 2, 3, 4, 5] (l' := [(50, .bool true), (15, .int .i64 (IntKind.i64.wrap (1 + (IntKind.i64.wrap a1)))), (14, .int .i64 (IntKind.i64.wrap (1 + (IntKind.i64.wrap a0)))), (13, .bool x1), (2, .slice A2_ a2.length c2_), (3, .slice A3_ a3.length c3_), (4, .slice A4_ a4.length c4_), (5, .slice A5_ a5.length c5_)]) rfl
   refine wp_cond_true (F.ev rfl) ?_
   refine rg ?_
   refine mv F rfl fun a F => ?_
   refine as_ F rfl fun a F => ?_
   refine rgend ?_
   replace F := F.only [12] (l' := [(12, .bool x1)]) rfl
   refine wp_ret ?_
   try dsimp only at h
   obtain rfl := Option.some.inj h
   exact RET _ _ (ret1 F rfl rfl ⟨_, rfl, rfl, H.px3.px2.px1.px0⟩)
  ·rw [if_neg c4] at h
   rw [decide_eq_false c4] at F
   refine mv F rfl fun a F => ?_
   obtain ⟨x5, e6, h⟩ := Option.bind_eq_some_iff.1 h
   try dsimp only at h
   refine ls (call F Try.func17 (law17_Rows_ok (H.p2) e6) rfl rfl fun v w hR a F => ?_)
   obtain ⟨rfl, H⟩ := hR
   refine qw F (r_pickF (F.t 37 rfl) (F.t 39 rfl)) fun a F => ?_
   refine mv F rfl fun a F => ?_
   by_cases c7 : x5 = true
   ·rw [if_pos c7] at h
    rw [c7] at F
    refine of_ F fun a F => ?_
    refine of_ F fun a F => ?_
    refine of_ F fun a F => ?_
    refine qw F (r_pickT (F.t 41 rfl) (F.ev (x := .const (.bool true)) rfl)) fun a F => ?_
    refine mv F rfl fun a F => ?_
    refine of_ F fun a F => ?_
    refine of_ F fun a F => ?_
    refine of_ F fun a F => ?_
    refine qw F (r_pickT (F.t 46 rfl) (F.ev (x := .const (.bool true)) rfl)) fun a F => ?_
    refine rgend ?_
    replace F := F.only [50, 15, 14, 13, 2, 3, 4, 5] (l' := [(50, .bool true), (15, .int .i64 (IntKind.i64.wrap (1 + (IntKind.i64.wrap a1)))), (14, .int .i64 (IntKind.i64.wrap (1 + (IntKind.i64.wrap a0)))), (13, .bool x1), (2, .slice A2_ a2.length c2_), (3, .slice A3_ a3.length c3_), (4, .slice A4_ a4.length c4_), (5, .slice A5_ a5.length c5_)]) rfl
    refine wp_cond_true (F.ev rfl) ?_
    refine rg ?_
    refine mv F rfl fun a F => ?_
    refine as_ F rfl fun a F => ?_
    refine rgend ?_
    replace F := F.only [12] (l' := [(12, .bool x1)]) rfl
    refine wp_ret ?_
    try dsimp only at h
    obtain rfl := Option.some.inj h
    exact RET _ _ (ret1 F rfl rfl ⟨_, rfl, rfl, H.px3.px2.px1.px0⟩)
   ·rw [if_neg c7] at h
    rw [Bool.eq_false_iff.2 c7] at F
    refine mv F rfl fun a F => ?_
    refine qw F (r_len (F.t 42 rfl) Try.underlying23) fun a F => ?_
    refine qw F (r_gt (F.t 43 rfl) (F.ev (x := .const (.int .i64 900)) rfl)) fun a F => ?_
    refine qw F (r_pickF (F.t 41 rfl) (F.t 44 rfl)) fun a F => ?_
    refine mv F rfl fun a F => ?_
    by_cases c8 : (a5.length : Int) > 900
    ·rw [if_pos c8] at h
     rw [decide_eq_true c8] at F
     refine of_ F fun a F => ?_
     refine of_ F fun a F => ?_
     refine of_ F fun a F => ?_
     refine qw F (r_pickT (F.t 46 rfl) (F.ev (x := .const (.bool true)) rfl)) fun a F => ?_
     refine rgend ?_
     replace F := F.only [50, 15, 14, 13, 2, 3, 4, 5] (l' := [(50, .bool true), (15, .int .i64 (IntKind.i64.wrap (1 + (IntKind.i64.wrap a1)))), (14, .int .i64 (IntKind.i64.wrap (1 + (IntKind.i64.wrap a0)))), (13, .bool x1), (2, .slice A2_ a2.length c2_), (3, .slice A3_ a3.length c3_), (4, .slice A4_ a4.length c4_), (5, .slice A5_ a5.length c5_)]) rfl
     refine wp_cond_true (F.ev rfl) ?_
     refine rg ?_
     refine mv F rfl fun a F => ?_
     refine as_ F rfl fun a F => ?_
     refine rgend ?_
     replace F := F.only [12] (l' := [(12, .bool x1)]) rfl
     refine wp_ret ?_
     try dsimp only at h
     obtain rfl := Option.some.inj h
     exact RET _ _ (ret1 F rfl rfl ⟨_, rfl, rfl, H.px3.px2.px1.px0⟩)
    ·rw [if_neg c8] at h
     rw [decide_eq_false c8] at F
     refine mv F rfl fun a F => ?_
     refine mv F rfl fun a F => ?_
     refine qw F (r_eq (F.t 47 rfl) (F.t 48 rfl)) fun a F => ?_
     refine qw F (r_pickF (F.t 46 rfl) (F.t 49 rfl)) fun a F => ?_
     refine rgend ?_
     replace F := F.only [50, 15, 14, 13, 2, 3, 4, 5] (l' := [(50, .bool (decide ((IntKind.i64.wrap (1 + (IntKind.i64.wrap a0))) = (IntKind.i64.wrap (1 + (IntKind.i64.wrap a1)))))), (15, .int .i64 (IntKind.i64.wrap (1 + (IntKind.i64.wrap a1)))), (14, .int .i64 (IntKind.i64.wrap (1 + (IntKind.i64.wrap a0)))), (13, .bool x1), (2, .slice A2_ a2.length c2_), (3, .slice A3_ a3.length c3_), (4, .slice A4_ a4.length c4_), (5, .slice A5_ a5.length c5_)]) rfl
     by_cases c9 : (IntKind.i64.wrap (1 + (IntKind.i64.wrap a0))) = (IntKind.i64.wrap (1 + (IntKind.i64.wrap a1)))
     ·rw [if_pos c9] at h
      rw [decide_eq_true c9] at F
      refine wp_cond_true (F.ev rfl) ?_
      refine rg ?_
      refine mv F rfl fun a F => ?_
      refine as_ F rfl fun a F => ?_
      refine rgend ?_
      replace F := F.only [12] (l' := [(12, .bool x1)]) rfl
      refine wp_ret ?_
      try dsimp only at h
      obtain rfl := Option.some.inj h
      exact RET _ _ (ret1 F rfl rfl ⟨_, rfl, rfl, H.px3.px2.px1.px0⟩)
     ·rw [if_neg c9] at h
      rw [decide_eq_false c9] at F
      refine wp_cond_false (F.ev rfl) ?_
      refine wp_skip ?_
      refine rg ?_
      obtain ⟨x10, e11, h⟩ := Option.bind_eq_some_iff.1 h
      try dsimp only at h
      rcases x10 with _ | x12
      ·try dsimp only at h
       refine ls (call F Try.func18 (disk_New_ok (H) e11) rfl rfl fun v w hR a F => ?_)
       obtain ⟨rfl, H⟩ := hR
       refine as_ F rfl fun a F => ?_
       refine rgend ?_
       refine wp_seq ?_
       refine rg ?_
       refine mv F rfl fun a F => ?_
       refine qw F (r_peq0 (F.t 53 rfl) (F.ev (x := .const (.pointer none)) rfl) Try.underlying28) fun a F => ?_
       refine rgend ?_
       refine wp_cond_true (F.ev rfl) ?_
       refine rg ?_
       refine as_ F (v := .bool false) rfl fun a F => ?_
       refine rgend ?_
       replace F := F.only [12] (l' := [(12, .bool false)]) rfl
       refine wp_ret ?_
       try dsimp only at h
       obtain rfl := Option.some.inj h
       exact RET _ _ (ret1 F rfl rfl ⟨_, rfl, rfl, H.px3.px2.px1.px0⟩)
      ·try dsimp only at h
       refine ls (call F Try.func18 (disk_New_ok (H) e11) rfl rfl fun v w hR a F => ?_)
       obtain ⟨g13, rfl, H⟩ := hR
       refine as_ F rfl fun a F => ?_
       refine rgend ?_
       refine wp_seq ?_
       refine rg ?_
       refine mv F rfl fun a F => ?_
       refine qw F (r_peq (F.t 53 rfl) (F.ev (x := .const (.pointer none)) rfl) Try.underlying28) fun a F => ?_
       refine rgend ?_
       refine wp_cond_false (F.ev rfl) ?_
       refine wp_skip ?_
       refine rg ?_
       refine mv F rfl fun a F => ?_
       refine mv F rfl fun a F => ?_
       refine mv F rfl fun a F => ?_
       refine mv F rfl fun a F => ?_
       obtain ⟨⟨x14, x15⟩, e16, h⟩ := Option.bind_eq_some_iff.1 h
       try dsimp only at h
       refine ls (call F Try.func19 (region_Lay_ok (H.p2.p2) e16) rfl rfl fun v w hR a F => ?_)
       obtain ⟨rfl, H⟩ := hR
       refine rgend ?_
       replace F := F.only [16, 14, 13, 2, 5] (l' := [(16, .pointer (some ⟨g13, 0, none⟩)), (14, .int .i64 (IntKind.i64.wrap (1 + (IntKind.i64.wrap a0)))), (13, .bool x1), (2, .slice A2_ a2.length c2_), (5, .slice A5_ a5.length c5_)]) rfl
       refine rg ?_
       refine mv F rfl fun a F => ?_
       obtain ⟨⟨x17, x18⟩, e19, h⟩ := Option.bind_eq_some_iff.1 h
       try dsimp only at h
       refine ls (call F Try.func32 (disk_Disk_Sync_ok (H) e19) rfl rfl fun v w hR a F => ?_)
       obtain ⟨rfl, H⟩ := hR
       refine rgend ?_
       refine wp_seq ?_
       refine rg ?_
       refine mv F rfl fun a F => ?_
       refine mv F rfl fun a F => ?_
       refine mv F rfl fun a F => ?_
       replace H := H.nilRd (kSlice kByte)
       obtain ⟨⟨x20, x21⟩, e22, h⟩ := Option.bind_eq_some_iff.1 h
       try dsimp only at h
       refine ls (call F Try.func19 (region_Lay_ok (H.p0.p2) e22) rfl rfl fun v w hR a F => ?_)
       obtain ⟨rfl, H⟩ := hR
       refine qw F (r_ne (F.t 65 rfl) (F.ev (x := .const (.int .i64 0)) rfl)) fun a F => ?_
       refine rgend ?_
       replace F := F.only [66, 16, 14, 13, 2, 5] (l' := [(66, .bool (decide (x20 ≠ 0))), (16, .pointer (some ⟨g13, 0, none⟩)), (14, .int .i64 (IntKind.i64.wrap (1 + (IntKind.i64.wrap a0)))), (13, .bool x1), (2, .slice A2_ a2.length c2_), (5, .slice A5_ a5.length c5_)]) rfl
       by_cases c23 : x20 ≠ 0
       ·rw [if_pos c23] at h
        rw [decide_eq_true c23] at F
        refine wp_cond_true (F.ev rfl) ?_
        refine rg ?_
        refine mv F rfl fun a F => ?_
        refine as_ F rfl fun a F => ?_
        refine rgend ?_
        replace F := F.only [12] (l' := [(12, .bool x1)]) rfl
        refine wp_ret ?_
        try dsimp only at h
        obtain rfl := Option.some.inj h
        exact RET _ _ (ret1 F rfl rfl ⟨_, rfl, rfl, H.px4.px3.px2.px1.px0.fx0⟩)
       ·rw [if_neg c23] at h
        rw [decide_eq_false c23] at F
        refine wp_cond_false (F.ev rfl) ?_
        refine wp_skip ?_
        refine rg ?_
        refine mv F rfl fun a F => ?_
        obtain ⟨⟨x24, x25⟩, e26, h⟩ := Option.bind_eq_some_iff.1 h
        try dsimp only at h
        refine ls (call F Try.func12 (region_Read_ok (H) e26) rfl rfl fun v w hR a F => ?_)
        obtain ⟨A27, c28, A29, c30, A31, c32, rfl, H⟩ := hR
        refine mv F rfl fun a F => ?_
        refine qw F (r_ex (F.t 68 rfl) rfl) fun a F => ?_
        refine qw F (r_ex (F.t 68 rfl) rfl) fun a F => ?_
        refine ls (lal F H ti34 (cs := [.int .i64 0, .slice none 0 0, .slice none 0 0, .slice none 0 0]) rfl fun g33 w a H F => ?_)
        obtain ⟨_, hr, H⟩ := Hp.store (t := 34) (o := 0) (n := 4) (vs := [.int .i64 x24.Gen, .slice A27 x24.State.length c28, .slice A29 x24.Kept.length c30, .slice A31 x24.More.length c32]) (cs' := [.int .i64 x24.Gen, .slice A27 x24.State.length c28, .slice A29 x24.Kept.length c30, .slice A31 x24.More.length c32]) (H) (F.t 17 rfl) (F.t 71 rfl) rfl sz34 rfl (Nat.le_of_ble_eq_true rfl) rfl rfl
        refine ls (qn F (.inl rfl) (hr _ _ _ _) fun a F => ?_)
        refine as_ F rfl fun a F => ?_
        refine rgend ?_
        replace F := F.only [18, 17, 16, 14, 13, 2, 5] (l' := [(18, .bool x25), (17, .pointer (some ⟨g33, 0, none⟩)), (16, .pointer (some ⟨g13, 0, none⟩)), (14, .int .i64 (IntKind.i64.wrap (1 + (IntKind.i64.wrap a0)))), (13, .bool x1), (2, .slice A2_ a2.length c2_), (5, .slice A5_ a5.length c5_)]) rfl
        refine wp_seq ?_
        refine rg ?_
        refine mv F rfl fun a F => ?_
        refine qw F (r_not (F.t 73 rfl)) fun a F => ?_
        refine mv F rfl fun a F => ?_
        by_cases c34 : x25 = true
        ·rw [if_pos c34] at h
         rw [c34] at F
         refine qw F (r_ldA (F.t 17 rfl) (cel_range (o := 0) (n := 4) (vs := [.int .i64 x24.Gen, .slice A27 x24.State.length c28, .slice A29 x24.Kept.length c30, .slice A31 x24.More.length c32]) (H.cell 0 rfl) rfl) agg34 rfl) fun a F => ?_
         refine mv F rfl fun a F => ?_
         refine mv F rfl fun a F => ?_
         refine ls (lbd F (vs := [(0, .int .i64 (IntKind.i64.wrap (1 + (IntKind.i64.wrap a0)))), (1, .slice A2_ a2.length c2_)]) (cs := [.int .i64 (IntKind.i64.wrap (1 + (IntKind.i64.wrap a0))), .slice A2_ a2.length c2_, .slice none 0 0, .slice none 0 0]) rfl (fun w => by kernel_rfl) fun a F => ?_)
         replace H := (H.f2.f1.f2).freeze
         obtain ⟨x35, e36, h⟩ := Option.bind_eq_some_iff.1 h
         try dsimp only at h
         refine ls (call F Try.func14 (ref17_Same_ok (a0 := x24) (a1 := (⟨IntKind.i64.wrap (1 + (IntKind.i64.wrap a0)), a2, [], []⟩ : api_Region)) (H.p3.p4.p6.p3.p6.p6) e36) rfl rfl fun v w hR a F => ?_)
         obtain ⟨rfl, H⟩ := hR
         refine qw F (r_not (F.t 80 rfl)) fun a F => ?_
         refine qw F (r_pickF (F.t 75 rfl) (F.t 81 rfl)) fun a F => ?_
         refine rgend ?_
         replace F := F.only [82, 17, 16, 14, 13, 2, 5] (l' := [(82, .bool (!x35)), (17, .pointer (some ⟨g33, 0, none⟩)), (16, .pointer (some ⟨g13, 0, none⟩)), (14, .int .i64 (IntKind.i64.wrap (1 + (IntKind.i64.wrap a0)))), (13, .bool x1), (2, .slice A2_ a2.length c2_), (5, .slice A5_ a5.length c5_)]) rfl
         by_cases c37 : x35 = true
         ·rw [if_pos c37] at h
          rw [c37] at F
          refine wp_cond_false (F.ev rfl) ?_
          refine wp_skip ?_
          refine rg ?_
          refine mv F rfl fun a F => ?_
          refine qw F (r_ldA (F.t 17 rfl) (cel_range (o := 0) (n := 4) (vs := [.int .i64 x24.Gen, .slice A27 x24.State.length c28, .slice A29 x24.Kept.length c30, .slice A31 x24.More.length c32]) (H.cell 0 rfl) rfl) agg34 rfl) fun a F => ?_
          refine mv F rfl fun a F => ?_
          obtain ⟨⟨x38, x39⟩, e40, h⟩ := Option.bind_eq_some_iff.1 h
          try dsimp only at h
          refine ls (call F Try.func20 (region_Put_ok (a3 := x24) (H.p7.f1) e40) rfl rfl fun v w hR a F => ?_)
          obtain ⟨rfl, H⟩ := hR
          refine as_ F rfl fun a F => ?_
          refine rgend ?_
          replace F := F.only [19, 17, 16, 14, 13, 2, 5] (l' := [(19, .int .i64 x38), (17, .pointer (some ⟨g33, 0, none⟩)), (16, .pointer (some ⟨g13, 0, none⟩)), (14, .int .i64 (IntKind.i64.wrap (1 + (IntKind.i64.wrap a0)))), (13, .bool x1), (2, .slice A2_ a2.length c2_), (5, .slice A5_ a5.length c5_)]) rfl
          refine rg ?_
          refine mv F rfl fun a F => ?_
          obtain ⟨⟨x41, x42⟩, e43, h⟩ := Option.bind_eq_some_iff.1 h
          try dsimp only at h
          refine ls (call F Try.func12 (region_Read_ok (H) e43) rfl rfl fun v w hR a F => ?_)
          obtain ⟨A44, c45, A46, c47, A48, c49, rfl, H⟩ := hR
          refine mv F rfl fun a F => ?_
          refine qw F (r_ex (F.t 87 rfl) rfl) fun a F => ?_
          refine qw F (r_ex (F.t 87 rfl) rfl) fun a F => ?_
          refine ls (lal F H ti34 (cs := [.int .i64 0, .slice none 0 0, .slice none 0 0, .slice none 0 0]) rfl fun g50 w a H F => ?_)
          obtain ⟨_, hr, H⟩ := Hp.store (t := 34) (o := 0) (n := 4) (vs := [.int .i64 x41.Gen, .slice A44 x41.State.length c45, .slice A46 x41.Kept.length c47, .slice A48 x41.More.length c49]) (cs' := [.int .i64 x41.Gen, .slice A44 x41.State.length c45, .slice A46 x41.Kept.length c47, .slice A48 x41.More.length c49]) (H) (F.t 20 rfl) (F.t 90 rfl) rfl sz34 rfl (Nat.le_of_ble_eq_true rfl) rfl rfl
          refine ls (qn F (.inl rfl) (hr _ _ _ _) fun a F => ?_)
          refine as_ F rfl fun a F => ?_
          refine rgend ?_
          replace F := F.only [21, 20, 19, 17, 14, 13, 2, 5] (l' := [(21, .bool x42), (20, .pointer (some ⟨g50, 0, none⟩)), (19, .int .i64 x38), (17, .pointer (some ⟨g33, 0, none⟩)), (14, .int .i64 (IntKind.i64.wrap (1 + (IntKind.i64.wrap a0)))), (13, .bool x1), (2, .slice A2_ a2.length c2_), (5, .slice A5_ a5.length c5_)]) rfl
          refine wp_seq ?_
          refine rg ?_
          refine mv F rfl fun a F => ?_
          refine qw F (r_ne (F.t 92 rfl) (F.ev (x := .const (.int .i64 0)) rfl)) fun a F => ?_
          refine rgend ?_
          by_cases c51 : x38 ≠ 0
          ·rw [if_pos c51] at h
           rw [decide_eq_true c51] at F
           refine wp_cond_true (F.ev rfl) ?_
           refine wp_seq ?_
           obtain ⟨o_52, k_52, h⟩ := Option.bind_eq_some_iff.1 h
           refine cut (fun a w => ∃ (x52 : Bool), x52 = o_52 ∧ Fr 120 [] [(12, .bool x52)] a ∧ Hp w0 ps (obj_disk_Disk g13 x39 :: fs) w) ?_ ?_
           ·skip
            refine wp_region_lit ?_
            refine mv F rfl fun a F => ?_
            refine mv F rfl fun a F => ?_
            by_cases c54 : x1 = true
            ·rw [if_pos c54] at k_52
             rw [c54] at F
             refine mv F rfl fun a F => ?_
             refine qw F (r_eq (F.t 96 rfl) (F.ev (x := .const (.int .i64 1)) rfl)) fun a F => ?_
             refine qw F (r_pickT (F.t 95 rfl) (F.t 97 rfl)) fun a F => ?_
             refine mv F rfl fun a F => ?_
             by_cases c55 : x38 = 1
             ·rw [if_pos c55] at k_52
              rw [decide_eq_true c55] at F
              refine mv F rfl fun a F => ?_
              refine qw F (r_pickT (F.t 99 rfl) (F.t 100 rfl)) fun a F => ?_
              refine mv F rfl fun a F => ?_
              by_cases c56 : x42 = true
              ·rw [if_pos c56] at k_52
               rw [c56] at F
               refine qw F (r_ldA (F.t 20 rfl) (cel_range (o := 0) (n := 4) (vs := [.int .i64 x41.Gen, .slice A44 x41.State.length c45, .slice A46 x41.Kept.length c47, .slice A48 x41.More.length c49]) (H.cell 0 rfl) rfl) agg34 rfl) fun a F => ?_
               refine qw F (r_ldA (F.t 17 rfl) (cel_range (o := 0) (n := 4) (vs := [.int .i64 x24.Gen, .slice A27 x24.State.length c28, .slice A29 x24.Kept.length c30, .slice A31 x24.More.length c32]) (H.cell 3 rfl) rfl) agg34 rfl) fun a F => ?_
               replace H := (H.f3.f3.f2.f3).freeze
               obtain ⟨x57, e58, k_52⟩ := Option.bind_eq_some_iff.1 k_52
               try dsimp only at k_52
               refine ls (call F Try.func14 (ref17_Same_ok (a0 := x41) (a1 := x24) (H.p3.p6.p6.p3.p6.p6) e58) rfl rfl fun v w hR a F => ?_)
               obtain ⟨rfl, H⟩ := hR
               refine qw F (r_pickT (F.t 102 rfl) (F.t 105 rfl)) fun a F => ?_
               refine as_ F rfl fun a F => ?_
               refine wpList_nil ?_
               replace F := F.only [12] (l' := [(12, .bool x57)]) rfl
               try dsimp only at k_52
               obtain rfl := Option.some.inj k_52
               exact ⟨_, rfl, F.only [12] rfl, H.px10.px9.px8.px7.px6.px5.px4.px3.px2.px1.px0.fx2.fx0⟩
              ·rw [if_neg c56] at k_52
               rw [Bool.eq_false_iff.2 c56] at F
               refine of_ F fun a F => ?_
               refine of_ F fun a F => ?_
               refine of_ F fun a F => ?_
               refine qw F (r_pickF (F.t 102 rfl) (F.ev (x := .const (.bool false)) rfl)) fun a F => ?_
               refine as_ F rfl fun a F => ?_
               refine wpList_nil ?_
               replace F := F.only [12] (l' := [(12, .bool false)]) rfl
               try dsimp only at k_52
               obtain rfl := Option.some.inj k_52
               exact ⟨_, rfl, F.only [12] rfl, H.px9.px8.px7.px6.px5.px4.px3.px2.px1.px0.fx3.fx1.fx0⟩
             ·rw [if_neg c55] at k_52
              rw [decide_eq_false c55] at F
              refine of_ F fun a F => ?_
              refine qw F (r_pickF (F.t 99 rfl) (F.ev (x := .const (.bool false)) rfl)) fun a F => ?_
              refine mv F rfl fun a F => ?_
              refine of_ F fun a F => ?_
              refine of_ F fun a F => ?_
              refine of_ F fun a F => ?_
              refine qw F (r_pickF (F.t 102 rfl) (F.ev (x := .const (.bool false)) rfl)) fun a F => ?_
              refine as_ F rfl fun a F => ?_
              refine wpList_nil ?_
              replace F := F.only [12] (l' := [(12, .bool false)]) rfl
              try dsimp only at k_52
              obtain rfl := Option.some.inj k_52
              exact ⟨_, rfl, F.only [12] rfl, H.px9.px8.px7.px6.px5.px4.px3.px2.px1.px0.fx3.fx1.fx0⟩
            ·rw [if_neg c54] at k_52
             rw [Bool.eq_false_iff.2 c54] at F
             refine of_ F fun a F => ?_
             refine of_ F fun a F => ?_
             refine qw F (r_pickF (F.t 95 rfl) (F.ev (x := .const (.bool false)) rfl)) fun a F => ?_
             refine mv F rfl fun a F => ?_
             refine of_ F fun a F => ?_
             refine qw F (r_pickF (F.t 99 rfl) (F.ev (x := .const (.bool false)) rfl)) fun a F => ?_
             refine mv F rfl fun a F => ?_
             refine of_ F fun a F => ?_
             refine of_ F fun a F => ?_
             refine of_ F fun a F => ?_
             refine qw F (r_pickF (F.t 102 rfl) (F.ev (x := .const (.bool false)) rfl)) fun a F => ?_
             refine as_ F rfl fun a F => ?_
             refine wpList_nil ?_
             replace F := F.only [12] (l' := [(12, .bool false)]) rfl
             try dsimp only at k_52
             obtain rfl := Option.some.inj k_52
             exact ⟨_, rfl, F.only [12] rfl, H.px9.px8.px7.px6.px5.px4.px3.px2.px1.px0.fx3.fx1.fx0⟩
           ·rintro a w ⟨x52, rfl, F, H⟩
            try dsimp only at h F H
            refine wp_ret ?_
            try dsimp only at h
            obtain rfl := Option.some.inj h
            exact RET _ _ (ret1 F rfl rfl ⟨_, rfl, rfl, H.fx0⟩)
          ·rw [if_neg c51] at h
           rw [decide_eq_false c51] at F
           refine wp_cond_false (F.ev rfl) ?_
           refine wp_skip ?_
           refine wp_seq ?_
           obtain ⟨o_59, k_59, h⟩ := Option.bind_eq_some_iff.1 h
           refine cut (fun a w => ∃ (x59 : Bool), x59 = o_59 ∧ Fr 120 [] [(12, .bool x59)] a ∧ Hp w0 ps (obj_disk_Disk g13 x39 :: fs) w) ?_ ?_
           ·skip
            refine wp_region_lit ?_
            refine mv F rfl fun a F => ?_
            refine mv F rfl fun a F => ?_
            by_cases c61 : x1 = true
            ·rw [if_pos c61] at k_59
             rw [c61] at F
             refine mv F rfl fun a F => ?_
             refine qw F (r_pickT (F.t 108 rfl) (F.t 109 rfl)) fun a F => ?_
             refine mv F rfl fun a F => ?_
             by_cases c62 : x42 = true
             ·rw [if_pos c62] at k_59
              rw [c62] at F
              refine qw F (r_ldA (F.t 20 rfl) (cel_range (o := 0) (n := 4) (vs := [.int .i64 x41.Gen, .slice A44 x41.State.length c45, .slice A46 x41.Kept.length c47, .slice A48 x41.More.length c49]) (H.cell 0 rfl) rfl) agg34 rfl) fun a F => ?_
              refine mv F rfl fun a F => ?_
              refine mv F rfl fun a F => ?_
              refine mv F rfl fun a F => ?_
              refine ls (lbs F H (e := 23) (vs := [(0, .slice A5_ a5.length c5_)]) (cs := [.slice A5_ a5.length c5_]) rfl (fun w => by kernel_rfl) fun g63 w a H F => ?_)
              refine ls (lbd F (vs := [(0, .int .i64 (IntKind.i64.wrap (1 + (IntKind.i64.wrap a0)))), (1, .slice A2_ a2.length c2_), (3, .slice (some ⟨g63, 0, none⟩) 1 1)]) (cs := [.int .i64 (IntKind.i64.wrap (1 + (IntKind.i64.wrap a0))), .slice A2_ a2.length c2_, .slice none 0 0, .slice (some ⟨g63, 0, none⟩) 1 1]) rfl (fun w => by kernel_rfl) fun a F => ?_)
              replace H := (H.f4.f4.f3.f3.f4).freeze
              replace H := Hp.litRd (kd := (kSlice kByte)) (xs := [a5]) (H) ((SayL.cons (kd := (kSlice kByte)) (c1 := [.slice A5_ a5.length c5_]) (y := a5) (fun Z hp => ⟨A5_, c5_, rfl, pat hp 10 rfl⟩) SayL.nil)) (Nat.le_of_ble_eq_true rfl)
              obtain ⟨x64, e65, k_59⟩ := Option.bind_eq_some_iff.1 k_59
              try dsimp only at k_59
              refine ls (call F Try.func14 (ref17_Same_ok (a0 := x41) (a1 := (⟨IntKind.i64.wrap (1 + (IntKind.i64.wrap a0)), a2, [], [a5]⟩ : api_Region)) (H.p0.p8.p10.p4.p7.p7) e65) rfl rfl fun v w hR a F => ?_)
              obtain ⟨rfl, H⟩ := hR
              refine qw F (r_pickT (F.t 111 rfl) (F.t 118 rfl)) fun a F => ?_
              refine as_ F rfl fun a F => ?_
              refine wpList_nil ?_
              replace F := F.only [12] (l' := [(12, .bool x64)]) rfl
              try dsimp only at k_59
              obtain rfl := Option.some.inj k_59
              exact ⟨_, rfl, F.only [12] rfl, H.px11.px10.px9.px8.px7.px6.px5.px4.px3.px2.px1.px0.fx2.fx0⟩
             ·rw [if_neg c62] at k_59
              rw [Bool.eq_false_iff.2 c62] at F
              refine of_ F fun a F => ?_
              refine of_ F fun a F => ?_
              refine of_ F fun a F => ?_
              refine of_ F fun a F => ?_
              refine of_ F fun a F => ?_
              refine of_ F fun a F => ?_
              refine of_ F fun a F => ?_
              refine qw F (r_pickF (F.t 111 rfl) (F.ev (x := .const (.bool false)) rfl)) fun a F => ?_
              refine as_ F rfl fun a F => ?_
              refine wpList_nil ?_
              replace F := F.only [12] (l' := [(12, .bool false)]) rfl
              try dsimp only at k_59
              obtain rfl := Option.some.inj k_59
              exact ⟨_, rfl, F.only [12] rfl, H.px9.px8.px7.px6.px5.px4.px3.px2.px1.px0.fx3.fx1.fx0⟩
            ·rw [if_neg c61] at k_59
             rw [Bool.eq_false_iff.2 c61] at F
             refine of_ F fun a F => ?_
             refine qw F (r_pickF (F.t 108 rfl) (F.ev (x := .const (.bool false)) rfl)) fun a F => ?_
             refine mv F rfl fun a F => ?_
             refine of_ F fun a F => ?_
             refine of_ F fun a F => ?_
             refine of_ F fun a F => ?_
             refine of_ F fun a F => ?_
             refine of_ F fun a F => ?_
             refine of_ F fun a F => ?_
             refine of_ F fun a F => ?_
             refine qw F (r_pickF (F.t 111 rfl) (F.ev (x := .const (.bool false)) rfl)) fun a F => ?_
             refine as_ F rfl fun a F => ?_
             refine wpList_nil ?_
             replace F := F.only [12] (l' := [(12, .bool false)]) rfl
             try dsimp only at k_59
             obtain rfl := Option.some.inj k_59
             exact ⟨_, rfl, F.only [12] rfl, H.px9.px8.px7.px6.px5.px4.px3.px2.px1.px0.fx3.fx1.fx0⟩
           ·rintro a w ⟨x59, rfl, F, H⟩
            try dsimp only at h F H
            refine wp_ret ?_
            try dsimp only at h
            obtain rfl := Option.some.inj h
            exact RET _ _ (ret1 F rfl rfl ⟨_, rfl, rfl, H.fx0⟩)
         ·rw [if_neg c37] at h
          rw [Bool.eq_false_iff.2 c37] at F
          refine wp_cond_true (F.ev rfl) ?_
          refine rg ?_
          refine as_ F (v := .bool false) rfl fun a F => ?_
          refine rgend ?_
          replace F := F.only [12] (l' := [(12, .bool false)]) rfl
          refine wp_ret ?_
          try dsimp only at h
          obtain rfl := Option.some.inj h
          exact RET _ _ (ret1 F rfl rfl ⟨_, rfl, rfl, H.px7.px6.px5.px4.px3.px2.px1.px0.fx1.fx0⟩)
        ·rw [if_neg c34] at h
         rw [Bool.eq_false_iff.2 c34] at F
         refine of_ F fun a F => ?_
         refine of_ F fun a F => ?_
         refine of_ F fun a F => ?_
         refine of_ F fun a F => ?_
         refine of_ F fun a F => ?_
         refine of_ F fun a F => ?_
         refine qw F (r_pickT (F.t 75 rfl) (F.ev (x := .const (.bool true)) rfl)) fun a F => ?_
         refine rgend ?_
         replace F := F.only [82, 17, 16, 14, 13, 2, 5] (l' := [(82, .bool true), (17, .pointer (some ⟨g33, 0, none⟩)), (16, .pointer (some ⟨g13, 0, none⟩)), (14, .int .i64 (IntKind.i64.wrap (1 + (IntKind.i64.wrap a0)))), (13, .bool x1), (2, .slice A2_ a2.length c2_), (5, .slice A5_ a5.length c5_)]) rfl
         refine wp_cond_true (F.ev rfl) ?_
         refine rg ?_
         refine as_ F (v := .bool false) rfl fun a F => ?_
         refine rgend ?_
         replace F := F.only [12] (l' := [(12, .bool false)]) rfl
         refine wp_ret ?_
         try dsimp only at h
         obtain rfl := Option.some.inj h
         exact RET _ _ (ret1 F rfl rfl ⟨_, rfl, rfl, H.px6.px5.px4.px3.px2.px1.px0.fx2.fx1.fx0⟩)
end Go.Proofs.Ytdkdaggpfgajlaa
