/- What the functions compute. Printed by wip/gen. -/
import Derived.Test.YtdkdaggpfgajlaaG1
set_option linter.unusedVariables false
set_option linter.unusedSimpArgs false
namespace Go.Proofs.Ytdkdaggpfgajlaa
open Go Go.RowKit
def law17_head_f : Option (Bool) :=
 ((disk_New_f 8).bind fun x1 => match x1 with | none => some false | some x3 => (if 0 ≤ (51 : Int) ∧ 1 * (51 : Int) ≤ 281474976710656 then ((region_Lay_f x3 1 6 7 (List.replicate (51 : Int).toNat (0 : Int)) ([[107]])).bind fun (x9, x10) => ((region_Put_f x10 1 6 ((⟨7, List.replicate (51 : Int).toNat (0 : Int), [[107]], []⟩ : api_Region)) ([109])).bind fun (x15, x16) => ((region_Read_f x16 1 6).bind fun (x18, x19) => ((region_Read_f x16 0 6).bind fun (x28, x29) => ((region_Lay_f x16 1 6 0 (List.replicate (51 : Int).toNat (0 : Int)) []).bind fun (x38, x39) => ((region_Lay_f x39 1 1 9 (List.replicate (51 : Int).toNat (0 : Int)) []).bind fun (x41, x42) => ((region_Greatest_f x42 0 8).bind fun x44 => ((disk_Disk_Crash_f x42 [] (-1)).bind fun x46 => ((region_Read_f x46 1 6).bind fun (x48, x49) => (((if x9 = 0 then (if x15 = 0 then (if x19 = true then ((ref17_Same_f x18 ((⟨7, List.replicate (51 : Int).toNat (0 : Int), [[107]], [[109]]⟩ : api_Region))).bind fun x67 => (if x67 = true then (if x29 = true then some false else (if x38 = 1 then (if x41 = 5 then (if x44 = 7 then some (!x49) else some false) else some false) else some false)) else some false)) else some false) else some false) else some false) : Option (Bool)).bind fun x58 => some x58)))))))))) else none))
set_option maxHeartbeats 4000000 in
set_option maxRecDepth 20000 in
theorem law17_head_ok {w0 w : World} {ps : List PF} {fs : List SF}  {r0 : Bool} (H : Hp w0 ps fs w) (h : law17_head_f = some r0) :
  Calls Try.prog 9 [].toArray w fun e w' => ∃ v, e = .returned v ∧ v = .bool r0 ∧ Hp w0 ps fs w' := by
 refine enter [] 99 Try.func9 fun Q a NP RET NRM F => ?_
 replace NP : ∀ c a w, ¬ Q (.panic c) a w := fun c a w h => by rcases NP c a w h with h | ⟨w, v, h, _⟩ <;> cases h
 unfold law17_head_f at h
 refine rg ?_
 refine as_ F (v := .bool false) rfl fun a F => ?_
 refine rgend ?_
 refine rg ?_
 obtain ⟨x1, e2, h⟩ := Option.bind_eq_some_iff.1 h
 try dsimp only at h
 rcases x1 with _ | x3
 ·try dsimp only at h
  refine ls (call F Try.func18 (disk_New_ok (H) e2) rfl rfl fun v w hR a F => ?_)
  obtain ⟨rfl, H⟩ := hR
  refine as_ F rfl fun a F => ?_
  refine rgend ?_
  refine wp_seq ?_
  refine rg ?_
  refine mv F rfl fun a F => ?_
  refine qw F (r_peq0 (F.t 15 rfl) (F.ev (x := .const (.pointer none)) rfl) Try.underlying28) fun a F => ?_
  refine rgend ?_
  refine wp_cond_true (F.ev rfl) ?_
  refine rg ?_
  refine as_ F (v := .bool false) rfl fun a F => ?_
  refine rgend ?_
  replace F := F.only [0] (l' := [(0, .bool false)]) rfl
  refine wp_ret ?_
  try dsimp only at h
  obtain rfl := Option.some.inj h
  exact RET _ _ (ret1 F rfl rfl ⟨_, rfl, rfl, H⟩)
 ·try dsimp only at h
  refine ls (call F Try.func18 (disk_New_ok (H) e2) rfl rfl fun v w hR a F => ?_)
  obtain ⟨g4, rfl, H⟩ := hR
  refine as_ F rfl fun a F => ?_
  refine rgend ?_
  refine wp_seq ?_
  refine rg ?_
  refine mv F rfl fun a F => ?_
  refine qw F (r_peq (F.t 15 rfl) (F.ev (x := .const (.pointer none)) rfl) Try.underlying28) fun a F => ?_
  refine rgend ?_
  refine wp_cond_false (F.ev rfl) ?_
  refine wp_skip ?_
  refine rg ?_
  obtain ⟨c6, h⟩ := guardO h
  obtain ⟨g5, _, hr, H⟩ := Hp.make (kd := kByte) (zx := (0 : Int)) H (F.ev (x := .const (.int .i64 51)) rfl) (F.ev (x := .const (.int .i64 51)) rfl) Try.underlying23 ti5 rfl rfl (by decide) c6.1 c6.2 (fun Z w => ⟨rfl, by decide⟩) rfl
  refine qw F (hr _ _ _ _ _) fun a F => ?_
  refine as_ F rfl fun a F => ?_
  refine rgend ?_
  replace F := F.only [2, 1] (l' := [(2, .slice (some ⟨g5, 0, none⟩) (List.replicate (51 : Int).toNat (0 : Int)).length ((List.replicate (51 : Int).toNat (0 : Int)).length)), (1, .pointer (some ⟨g4, 0, none⟩))]) rfl
  refine rg ?_
  refine mv F rfl fun a F => ?_
  refine mv F rfl fun a F => ?_
  refine ls (lbs F H (e := 5) (vs := [(0, .int .u8 107)]) (cs := [.int .u8 107]) rfl (fun w => by kernel_rfl) fun g7 w a H F => ?_)
  obtain ⟨_, hr, H⟩ := Hp.mark (kd := kByte) (xs := [107]) (H) (F.t 20 rfl) Try.underlying23 Try.underlying5 ((SayL.cons (kd := kByte) (c1 := [.int .u8 107]) (y := 107) (fun Z hp => ⟨rfl, (by decide)⟩) SayL.nil)) (Nat.le_of_ble_eq_true rfl)
  refine qw F (hr _ _ _ _ _) fun a F => ?_
  refine ls (lbs F H (e := 23) (vs := [(0, .slice (some ⟨g7, 0, none⟩) 1 1)]) (cs := [.slice (some ⟨g7, 0, none⟩) 1 1]) rfl (fun w => by kernel_rfl) fun g8 w a H F => ?_)
  replace H := (H.f2.f1.f2).freeze
  replace H := Hp.litRd (kd := (kSlice kByte)) (xs := [[107]]) (H) ((SayL.cons (kd := (kSlice kByte)) (c1 := [.slice (some ⟨g7, 0, none⟩) 1 1]) (y := [107]) (fun Z hp => ⟨(some ⟨g7, 0, none⟩), 1, rfl, pat hp 1 rfl⟩) SayL.nil)) (Nat.le_of_ble_eq_true rfl)
  obtain ⟨⟨x9, x10⟩, e11, h⟩ := Option.bind_eq_some_iff.1 h
  try dsimp only at h
  refine ls (call F Try.func19 (region_Lay_ok (H.p0.p2) e11) rfl rfl fun v w hR a F => ?_)
  obtain ⟨rfl, H⟩ := hR
  refine as_ F rfl fun a F => ?_
  refine rgend ?_
  replace F := F.only [3, 2, 1] (l' := [(3, .int .i64 x9), (2, .slice (some ⟨g5, 0, none⟩) (List.replicate (51 : Int).toNat (0 : Int)).length ((List.replicate (51 : Int).toNat (0 : Int)).length)), (1, .pointer (some ⟨g4, 0, none⟩))]) rfl
  refine rg ?_
  refine mv F rfl fun a F => ?_
  refine mv F rfl fun a F => ?_
  refine ls (lbs F H (e := 5) (vs := [(0, .int .u8 107)]) (cs := [.int .u8 107]) rfl (fun w => by kernel_rfl) fun g12 w a H F => ?_)
  obtain ⟨_, hr, H⟩ := Hp.mark (kd := kByte) (xs := [107]) (H) (F.t 26 rfl) Try.underlying23 Try.underlying5 ((SayL.cons (kd := kByte) (c1 := [.int .u8 107]) (y := 107) (fun Z hp => ⟨rfl, (by decide)⟩) SayL.nil)) (Nat.le_of_ble_eq_true rfl)
  refine qw F (hr _ _ _ _ _) fun a F => ?_
  refine ls (lbs F H (e := 23) (vs := [(0, .slice (some ⟨g12, 0, none⟩) 1 1)]) (cs := [.slice (some ⟨g12, 0, none⟩) 1 1]) rfl (fun w => by kernel_rfl) fun g13 w a H F => ?_)
  refine ls (lbd F (vs := [(0, .int .i64 7), (1, .slice (some ⟨g5, 0, none⟩) (List.replicate (51 : Int).toNat (0 : Int)).length ((List.replicate (51 : Int).toNat (0 : Int)).length)), (2, .slice (some ⟨g13, 0, none⟩) 1 1)]) (cs := [.int .i64 7, .slice (some ⟨g5, 0, none⟩) (List.replicate (51 : Int).toNat (0 : Int)).length ((List.replicate (51 : Int).toNat (0 : Int)).length), .slice (some ⟨g13, 0, none⟩) 1 1, .slice none 0 0]) rfl (fun w => by kernel_rfl) fun a F => ?_)
  refine ls (lbs F H (e := 5) (vs := [(0, .int .u8 109)]) (cs := [.int .u8 109]) rfl (fun w => by kernel_rfl) fun g14 w a H F => ?_)
  obtain ⟨_, hr, H⟩ := Hp.mark (kd := kByte) (xs := [109]) (H) (F.t 30 rfl) Try.underlying23 Try.underlying5 ((SayL.cons (kd := kByte) (c1 := [.int .u8 109]) (y := 109) (fun Z hp => ⟨rfl, (by decide)⟩) SayL.nil)) (Nat.le_of_ble_eq_true rfl)
  refine qw F (hr _ _ _ _ _) fun a F => ?_
  obtain ⟨⟨x15, x16⟩, e17, h⟩ := Option.bind_eq_some_iff.1 h
  try dsimp only at h
  refine ls (call F Try.func20 (region_Put_ok (a3 := (⟨7, List.replicate (51 : Int).toNat (0 : Int), [[107]], []⟩ : api_Region)) (H.p0.f1) e17) rfl rfl fun v w hR a F => ?_)
  obtain ⟨rfl, H⟩ := hR
  refine as_ F rfl fun a F => ?_
  refine rgend ?_
  replace F := F.only [4, 3, 2, 1] (l' := [(4, .int .i64 x15), (3, .int .i64 x9), (2, .slice (some ⟨g5, 0, none⟩) (List.replicate (51 : Int).toNat (0 : Int)).length ((List.replicate (51 : Int).toNat (0 : Int)).length)), (1, .pointer (some ⟨g4, 0, none⟩))]) rfl
  refine rg ?_
  refine mv F rfl fun a F => ?_
  obtain ⟨⟨x18, x19⟩, e20, h⟩ := Option.bind_eq_some_iff.1 h
  try dsimp only at h
  refine ls (call F Try.func12 (region_Read_ok (H) e20) rfl rfl fun v w hR a F => ?_)
  obtain ⟨A21, c22, A23, c24, A25, c26, rfl, H⟩ := hR
  refine mv F rfl fun a F => ?_
  refine qw F (r_ex (F.t 33 rfl) rfl) fun a F => ?_
  refine qw F (r_ex (F.t 33 rfl) rfl) fun a F => ?_
  refine ls (lal F H ti34 (cs := [.int .i64 0, .slice none 0 0, .slice none 0 0, .slice none 0 0]) rfl fun g27 w a H F => ?_)
  obtain ⟨_, hr, H⟩ := Hp.store (t := 34) (o := 0) (n := 4) (vs := [.int .i64 x18.Gen, .slice A21 x18.State.length c22, .slice A23 x18.Kept.length c24, .slice A25 x18.More.length c26]) (cs' := [.int .i64 x18.Gen, .slice A21 x18.State.length c22, .slice A23 x18.Kept.length c24, .slice A25 x18.More.length c26]) (H) (F.t 5 rfl) (F.t 36 rfl) rfl sz34 rfl (Nat.le_of_ble_eq_true rfl) rfl rfl
  refine ls (qn F (.inl rfl) (hr _ _ _ _) fun a F => ?_)
  refine as_ F rfl fun a F => ?_
  refine rgend ?_
  replace F := F.only [6, 5, 4, 3, 2, 1] (l' := [(6, .bool x19), (5, .pointer (some ⟨g27, 0, none⟩)), (4, .int .i64 x15), (3, .int .i64 x9), (2, .slice (some ⟨g5, 0, none⟩) (List.replicate (51 : Int).toNat (0 : Int)).length ((List.replicate (51 : Int).toNat (0 : Int)).length)), (1, .pointer (some ⟨g4, 0, none⟩))]) rfl
  refine rg ?_
  refine mv F rfl fun a F => ?_
  obtain ⟨⟨x28, x29⟩, e30, h⟩ := Option.bind_eq_some_iff.1 h
  try dsimp only at h
  refine ls (call F Try.func12 (region_Read_ok (H.f3.f2.f2.f3) e30) rfl rfl fun v w hR a F => ?_)
  obtain ⟨A31, c32, A33, c34, A35, c36, rfl, H⟩ := hR
  refine mv F rfl fun a F => ?_
  refine qw F (r_ex (F.t 38 rfl) rfl) fun a F => ?_
  refine qw F (r_ex (F.t 38 rfl) rfl) fun a F => ?_
  refine ls (lal F H ti34 (cs := [.int .i64 0, .slice none 0 0, .slice none 0 0, .slice none 0 0]) rfl fun g37 w a H F => ?_)
  obtain ⟨_, hr, H⟩ := Hp.store (t := 34) (o := 0) (n := 4) (vs := [.int .i64 x28.Gen, .slice A31 x28.State.length c32, .slice A33 x28.Kept.length c34, .slice A35 x28.More.length c36]) (cs' := [.int .i64 x28.Gen, .slice A31 x28.State.length c32, .slice A33 x28.Kept.length c34, .slice A35 x28.More.length c36]) (H) (F.t 7 rfl) (F.t 41 rfl) rfl sz34 rfl (Nat.le_of_ble_eq_true rfl) rfl rfl
  refine ls (qn F (.inl rfl) (hr _ _ _ _) fun a F => ?_)
  refine as_ F rfl fun a F => ?_
  refine rgend ?_
  replace F := F.only [8, 6, 5, 4, 3, 2, 1] (l' := [(8, .bool x29), (6, .bool x19), (5, .pointer (some ⟨g27, 0, none⟩)), (4, .int .i64 x15), (3, .int .i64 x9), (2, .slice (some ⟨g5, 0, none⟩) (List.replicate (51 : Int).toNat (0 : Int)).length ((List.replicate (51 : Int).toNat (0 : Int)).length)), (1, .pointer (some ⟨g4, 0, none⟩))]) rfl
  refine rg ?_
  refine mv F rfl fun a F => ?_
  refine mv F rfl fun a F => ?_
  replace H := H.nilRd (kSlice kByte)
  obtain ⟨⟨x38, x39⟩, e40, h⟩ := Option.bind_eq_some_iff.1 h
  try dsimp only at h
  refine ls (call F Try.func19 (region_Lay_ok (H.p0.p9.f5.f5.f5.f4.f4.f5) e40) rfl rfl fun v w hR a F => ?_)
  obtain ⟨rfl, H⟩ := hR
  refine as_ F rfl fun a F => ?_
  refine rgend ?_
  refine rg ?_
  refine mv F rfl fun a F => ?_
  refine mv F rfl fun a F => ?_
  obtain ⟨⟨x41, x42⟩, e43, h⟩ := Option.bind_eq_some_iff.1 h
  try dsimp only at h
  refine ls (call F Try.func19 (region_Lay_ok (H.p0.p9) e43) rfl rfl fun v w hR a F => ?_)
  obtain ⟨rfl, H⟩ := hR
  refine as_ F rfl fun a F => ?_
  refine rgend ?_
  replace F := F.only [10, 9, 8, 6, 5, 4, 3, 2, 1] (l' := [(10, .int .i64 x41), (9, .int .i64 x38), (8, .bool x29), (6, .bool x19), (5, .pointer (some ⟨g27, 0, none⟩)), (4, .int .i64 x15), (3, .int .i64 x9), (2, .slice (some ⟨g5, 0, none⟩) (List.replicate (51 : Int).toNat (0 : Int)).length ((List.replicate (51 : Int).toNat (0 : Int)).length)), (1, .pointer (some ⟨g4, 0, none⟩))]) rfl
  refine rg ?_
  refine mv F rfl fun a F => ?_
  obtain ⟨x44, e45, h⟩ := Option.bind_eq_some_iff.1 h
  try dsimp only at h
  refine ls (call F Try.func15 (region_Greatest_ok (H) e45) rfl rfl fun v w hR a F => ?_)
  obtain ⟨rfl, H⟩ := hR
  refine as_ F rfl fun a F => ?_
  refine rgend ?_
  refine rg ?_
  refine mv F rfl fun a F => ?_
  replace H := H.nilRd kBool
  obtain ⟨x46, e47, h⟩ := Option.bind_eq_some_iff.1 h
  try dsimp only at h
  refine ls (call F Try.func25 (disk_Disk_Crash_ok (H.p0) e47) rfl rfl fun v w hR a F => ?_)
  obtain ⟨rfl, H⟩ := hR
  refine rgend ?_
  replace F := F.only [11, 10, 9, 8, 6, 5, 4, 3, 2, 1] (l' := [(11, .int .i64 x44), (10, .int .i64 x41), (9, .int .i64 x38), (8, .bool x29), (6, .bool x19), (5, .pointer (some ⟨g27, 0, none⟩)), (4, .int .i64 x15), (3, .int .i64 x9), (2, .slice (some ⟨g5, 0, none⟩) (List.replicate (51 : Int).toNat (0 : Int)).length ((List.replicate (51 : Int).toNat (0 : Int)).length)), (1, .pointer (some ⟨g4, 0, none⟩))]) rfl
  refine rg ?_
  refine mv F rfl fun a F => ?_
  obtain ⟨⟨x48, x49⟩, e50, h⟩ := Option.bind_eq_some_iff.1 h
  try dsimp only at h
  refine ls (call F Try.func12 (region_Read_ok (H) e50) rfl rfl fun v w hR a F => ?_)
  obtain ⟨A51, c52, A53, c54, A55, c56, rfl, H⟩ := hR
  refine mv F rfl fun a F => ?_
  refine qw F (r_ex (F.t 53 rfl) rfl) fun a F => ?_
  refine qw F (r_ex (F.t 53 rfl) rfl) fun a F => ?_
  refine ls (lal F H ti34 (cs := [.int .i64 0, .slice none 0 0, .slice none 0 0, .slice none 0 0]) rfl fun g57 w a H F => ?_)
  obtain ⟨_, hr, H⟩ := Hp.store (t := 34) (o := 0) (n := 4) (vs := [.int .i64 x48.Gen, .slice A51 x48.State.length c52, .slice A53 x48.Kept.length c54, .slice A55 x48.More.length c56]) (cs' := [.int .i64 x48.Gen, .slice A51 x48.State.length c52, .slice A53 x48.Kept.length c54, .slice A55 x48.More.length c56]) (H) (F.t 12 rfl) (F.t 56 rfl) rfl sz34 rfl (Nat.le_of_ble_eq_true rfl) rfl rfl
  refine ls (qn F (.inl rfl) (hr _ _ _ _) fun a F => ?_)
  refine as_ F rfl fun a F => ?_
  refine rgend ?_
  replace F := F.only [13, 11, 10, 9, 8, 6, 5, 4, 3, 2] (l' := [(13, .bool x49), (11, .int .i64 x44), (10, .int .i64 x41), (9, .int .i64 x38), (8, .bool x29), (6, .bool x19), (5, .pointer (some ⟨g27, 0, none⟩)), (4, .int .i64 x15), (3, .int .i64 x9), (2, .slice (some ⟨g5, 0, none⟩) (List.replicate (51 : Int).toNat (0 : Int)).length ((List.replicate (51 : Int).toNat (0 : Int)).length))]) rfl
  refine wp_seq ?_
  obtain ⟨o_58, k_58, h⟩ := Option.bind_eq_some_iff.1 h
  refine cut (fun a w => ∃ (x58 : Bool), x58 = o_58 ∧ Fr 99 [] [(0, .bool x58)] a ∧ Hp w0 ps (obj_disk_Disk g4 x46 :: fs) w) ?_ ?_
  ·skip
   refine wp_region_lit ?_
   refine mv F rfl fun a F => ?_
   refine qw F (r_eq (F.t 58 rfl) (F.ev (x := .const (.int .i64 0)) rfl)) fun a F => ?_
   refine mv F rfl fun a F => ?_
   by_cases c60 : x9 = 0
   ·rw [if_pos c60] at k_58
    rw [decide_eq_true c60] at F
    refine mv F rfl fun a F => ?_
    refine qw F (r_eq (F.t 61 rfl) (F.ev (x := .const (.int .i64 0)) rfl)) fun a F => ?_
    refine qw F (r_pickT (F.t 60 rfl) (F.t 62 rfl)) fun a F => ?_
    refine mv F rfl fun a F => ?_
    by_cases c61 : x15 = 0
    ·rw [if_pos c61] at k_58
     rw [decide_eq_true c61] at F
     refine mv F rfl fun a F => ?_
     refine qw F (r_pickT (F.t 64 rfl) (F.t 65 rfl)) fun a F => ?_
     refine mv F rfl fun a F => ?_
     by_cases c62 : x19 = true
     ·rw [if_pos c62] at k_58
      rw [c62] at F
      refine qw F (r_ldA (F.t 5 rfl) (cel_range (o := 0) (n := 4) (vs := [.int .i64 x18.Gen, .slice A21 x18.State.length c22, .slice A23 x18.Kept.length c24, .slice A25 x18.More.length c26]) (H.cell 5 rfl) rfl) agg34 rfl) fun a F => ?_
      refine mv F rfl fun a F => ?_
      refine ls (lbs F H (e := 5) (vs := [(0, .int .u8 107)]) (cs := [.int .u8 107]) rfl (fun w => by kernel_rfl) fun g63 w a H F => ?_)
      obtain ⟨_, hr, H⟩ := Hp.mark (kd := kByte) (xs := [107]) (H) (F.t 70 rfl) Try.underlying23 Try.underlying5 ((SayL.cons (kd := kByte) (c1 := [.int .u8 107]) (y := 107) (fun Z hp => ⟨rfl, (by decide)⟩) SayL.nil)) (Nat.le_of_ble_eq_true rfl)
      refine qw F (hr _ _ _ _ _) fun a F => ?_
      refine ls (lbs F H (e := 23) (vs := [(0, .slice (some ⟨g63, 0, none⟩) 1 1)]) (cs := [.slice (some ⟨g63, 0, none⟩) 1 1]) rfl (fun w => by kernel_rfl) fun g64 w a H F => ?_)
      refine ls (lbs F H (e := 5) (vs := [(0, .int .u8 109)]) (cs := [.int .u8 109]) rfl (fun w => by kernel_rfl) fun g65 w a H F => ?_)
      obtain ⟨_, hr, H⟩ := Hp.mark (kd := kByte) (xs := [109]) (H) (F.t 73 rfl) Try.underlying23 Try.underlying5 ((SayL.cons (kd := kByte) (c1 := [.int .u8 109]) (y := 109) (fun Z hp => ⟨rfl, (by decide)⟩) SayL.nil)) (Nat.le_of_ble_eq_true rfl)
      refine qw F (hr _ _ _ _ _) fun a F => ?_
      refine ls (lbs F H (e := 23) (vs := [(0, .slice (some ⟨g65, 0, none⟩) 1 1)]) (cs := [.slice (some ⟨g65, 0, none⟩) 1 1]) rfl (fun w => by kernel_rfl) fun g66 w a H F => ?_)
      refine ls (lbd F (vs := [(0, .int .i64 7), (1, .slice (some ⟨g5, 0, none⟩) (List.replicate (51 : Int).toNat (0 : Int)).length ((List.replicate (51 : Int).toNat (0 : Int)).length)), (2, .slice (some ⟨g64, 0, none⟩) 1 1), (3, .slice (some ⟨g66, 0, none⟩) 1 1)]) (cs := [.int .i64 7, .slice (some ⟨g5, 0, none⟩) (List.replicate (51 : Int).toNat (0 : Int)).length ((List.replicate (51 : Int).toNat (0 : Int)).length), .slice (some ⟨g64, 0, none⟩) 1 1, .slice (some ⟨g66, 0, none⟩) 1 1]) rfl (fun w => by kernel_rfl) fun a F => ?_)
      replace H := (H.f9.f8.f8.f8.f8.f8.f8.f8.f8.f9).freeze
      replace H := Hp.litRd (kd := (kSlice kByte)) (xs := [[107]]) (H.f8.f8.f8.f8.f8.f8.f8.f7.f8) ((SayL.cons (kd := (kSlice kByte)) (c1 := [.slice (some ⟨g63, 0, none⟩) 1 1]) (y := [107]) (fun Z hp => ⟨(some ⟨g63, 0, none⟩), 1, rfl, pat hp 2 rfl⟩) SayL.nil)) (Nat.le_of_ble_eq_true rfl)
      replace H := Hp.litRd (kd := (kSlice kByte)) (xs := [[109]]) (H) ((SayL.cons (kd := (kSlice kByte)) (c1 := [.slice (some ⟨g65, 0, none⟩) 1 1]) (y := [109]) (fun Z hp => ⟨(some ⟨g65, 0, none⟩), 1, rfl, pat hp 2 rfl⟩) SayL.nil)) (Nat.le_of_ble_eq_true rfl)
      obtain ⟨x67, e68, k_58⟩ := Option.bind_eq_some_iff.1 k_58
      try dsimp only at k_58
      refine ls (call F Try.func14 (ref17_Same_ok (a0 := x18) (a1 := (⟨7, List.replicate (51 : Int).toNat (0 : Int), [[107]], [[109]]⟩ : api_Region)) (H.p0.p2.p18.p5.p16.p16) e68) rfl rfl fun v w hR a F => ?_)
      obtain ⟨rfl, H⟩ := hR
      refine qw F (r_pickT (F.t 67 rfl) (F.t 77 rfl)) fun a F => ?_
      refine mv F rfl fun a F => ?_
      by_cases c69 : x67 = true
      ·rw [if_pos c69] at k_58
       rw [c69] at F
       refine mv F rfl fun a F => ?_
       refine qw F (r_not (F.t 80 rfl)) fun a F => ?_
       refine qw F (r_pickT (F.t 79 rfl) (F.t 81 rfl)) fun a F => ?_
       refine mv F rfl fun a F => ?_
       by_cases c70 : x29 = true
       ·rw [if_pos c70] at k_58
        rw [c70] at F
        refine of_ F fun a F => ?_
        refine of_ F fun a F => ?_
        refine qw F (r_pickF (F.t 83 rfl) (F.ev (x := .const (.bool false)) rfl)) fun a F => ?_
        refine mv F rfl fun a F => ?_
        refine of_ F fun a F => ?_
        refine of_ F fun a F => ?_
        refine qw F (r_pickF (F.t 87 rfl) (F.ev (x := .const (.bool false)) rfl)) fun a F => ?_
        refine mv F rfl fun a F => ?_
        refine of_ F fun a F => ?_
        refine of_ F fun a F => ?_
        refine qw F (r_pickF (F.t 91 rfl) (F.ev (x := .const (.bool false)) rfl)) fun a F => ?_
        refine mv F rfl fun a F => ?_
        refine of_ F fun a F => ?_
        refine of_ F fun a F => ?_
        refine qw F (r_pickF (F.t 95 rfl) (F.ev (x := .const (.bool false)) rfl)) fun a F => ?_
        refine as_ F rfl fun a F => ?_
        refine wpList_nil ?_
        replace F := F.only [0] (l' := [(0, .bool false)]) rfl
        try dsimp only at k_58
        obtain rfl := Option.some.inj k_58
        exact ⟨_, rfl, F.only [0] rfl, H.px17.px16.px15.px14.px13.px12.px11.px10.px9.px8.px7.px6.px5.px4.px3.px2.px1.px0.fx6.fx5.fx4.fx3.fx1.fx0⟩
       ·rw [if_neg c70] at k_58
        rw [Bool.eq_false_iff.2 c70] at F
        refine mv F rfl fun a F => ?_
        refine qw F (r_eq (F.t 84 rfl) (F.ev (x := .const (.int .i64 1)) rfl)) fun a F => ?_
        refine qw F (r_pickT (F.t 83 rfl) (F.t 85 rfl)) fun a F => ?_
        refine mv F rfl fun a F => ?_
        by_cases c71 : x38 = 1
        ·rw [if_pos c71] at k_58
         rw [decide_eq_true c71] at F
         refine mv F rfl fun a F => ?_
         refine qw F (r_eq (F.t 88 rfl) (F.ev (x := .const (.int .i64 5)) rfl)) fun a F => ?_
         refine qw F (r_pickT (F.t 87 rfl) (F.t 89 rfl)) fun a F => ?_
         refine mv F rfl fun a F => ?_
         by_cases c72 : x41 = 5
         ·rw [if_pos c72] at k_58
          rw [decide_eq_true c72] at F
          refine mv F rfl fun a F => ?_
          refine qw F (r_eq (F.t 92 rfl) (F.ev (x := .const (.int .i64 7)) rfl)) fun a F => ?_
          refine qw F (r_pickT (F.t 91 rfl) (F.t 93 rfl)) fun a F => ?_
          refine mv F rfl fun a F => ?_
          by_cases c73 : x44 = 7
          ·rw [if_pos c73] at k_58
           rw [decide_eq_true c73] at F
           refine mv F rfl fun a F => ?_
           refine qw F (r_not (F.t 96 rfl)) fun a F => ?_
           refine qw F (r_pickT (F.t 95 rfl) (F.t 97 rfl)) fun a F => ?_
           refine as_ F rfl fun a F => ?_
           refine wpList_nil ?_
           replace F := F.only [0] (l' := [(0, .bool (!x49))]) rfl
           try dsimp only at k_58
           obtain rfl := Option.some.inj k_58
           exact ⟨_, rfl, F.only [0] rfl, H.px17.px16.px15.px14.px13.px12.px11.px10.px9.px8.px7.px6.px5.px4.px3.px2.px1.px0.fx6.fx5.fx4.fx3.fx1.fx0⟩
          ·rw [if_neg c73] at k_58
           rw [decide_eq_false c73] at F
           refine of_ F fun a F => ?_
           refine of_ F fun a F => ?_
           refine qw F (r_pickF (F.t 95 rfl) (F.ev (x := .const (.bool false)) rfl)) fun a F => ?_
           refine as_ F rfl fun a F => ?_
           refine wpList_nil ?_
           replace F := F.only [0] (l' := [(0, .bool false)]) rfl
           try dsimp only at k_58
           obtain rfl := Option.some.inj k_58
           exact ⟨_, rfl, F.only [0] rfl, H.px17.px16.px15.px14.px13.px12.px11.px10.px9.px8.px7.px6.px5.px4.px3.px2.px1.px0.fx6.fx5.fx4.fx3.fx1.fx0⟩
         ·rw [if_neg c72] at k_58
          rw [decide_eq_false c72] at F
          refine of_ F fun a F => ?_
          refine of_ F fun a F => ?_
          refine qw F (r_pickF (F.t 91 rfl) (F.ev (x := .const (.bool false)) rfl)) fun a F => ?_
          refine mv F rfl fun a F => ?_
          refine of_ F fun a F => ?_
          refine of_ F fun a F => ?_
          refine qw F (r_pickF (F.t 95 rfl) (F.ev (x := .const (.bool false)) rfl)) fun a F => ?_
          refine as_ F rfl fun a F => ?_
          refine wpList_nil ?_
          replace F := F.only [0] (l' := [(0, .bool false)]) rfl
          try dsimp only at k_58
          obtain rfl := Option.some.inj k_58
          exact ⟨_, rfl, F.only [0] rfl, H.px17.px16.px15.px14.px13.px12.px11.px10.px9.px8.px7.px6.px5.px4.px3.px2.px1.px0.fx6.fx5.fx4.fx3.fx1.fx0⟩
        ·rw [if_neg c71] at k_58
         rw [decide_eq_false c71] at F
         refine of_ F fun a F => ?_
         refine of_ F fun a F => ?_
         refine qw F (r_pickF (F.t 87 rfl) (F.ev (x := .const (.bool false)) rfl)) fun a F => ?_
         refine mv F rfl fun a F => ?_
         refine of_ F fun a F => ?_
         refine of_ F fun a F => ?_
         refine qw F (r_pickF (F.t 91 rfl) (F.ev (x := .const (.bool false)) rfl)) fun a F => ?_
         refine mv F rfl fun a F => ?_
         refine of_ F fun a F => ?_
         refine of_ F fun a F => ?_
         refine qw F (r_pickF (F.t 95 rfl) (F.ev (x := .const (.bool false)) rfl)) fun a F => ?_
         refine as_ F rfl fun a F => ?_
         refine wpList_nil ?_
         replace F := F.only [0] (l' := [(0, .bool false)]) rfl
         try dsimp only at k_58
         obtain rfl := Option.some.inj k_58
         exact ⟨_, rfl, F.only [0] rfl, H.px17.px16.px15.px14.px13.px12.px11.px10.px9.px8.px7.px6.px5.px4.px3.px2.px1.px0.fx6.fx5.fx4.fx3.fx1.fx0⟩
      ·rw [if_neg c69] at k_58
       rw [Bool.eq_false_iff.2 c69] at F
       refine of_ F fun a F => ?_
       refine of_ F fun a F => ?_
       refine qw F (r_pickF (F.t 79 rfl) (F.ev (x := .const (.bool false)) rfl)) fun a F => ?_
       refine mv F rfl fun a F => ?_
       refine of_ F fun a F => ?_
       refine of_ F fun a F => ?_
       refine qw F (r_pickF (F.t 83 rfl) (F.ev (x := .const (.bool false)) rfl)) fun a F => ?_
       refine mv F rfl fun a F => ?_
       refine of_ F fun a F => ?_
       refine of_ F fun a F => ?_
       refine qw F (r_pickF (F.t 87 rfl) (F.ev (x := .const (.bool false)) rfl)) fun a F => ?_
       refine mv F rfl fun a F => ?_
       refine of_ F fun a F => ?_
       refine of_ F fun a F => ?_
       refine qw F (r_pickF (F.t 91 rfl) (F.ev (x := .const (.bool false)) rfl)) fun a F => ?_
       refine mv F rfl fun a F => ?_
       refine of_ F fun a F => ?_
       refine of_ F fun a F => ?_
       refine qw F (r_pickF (F.t 95 rfl) (F.ev (x := .const (.bool false)) rfl)) fun a F => ?_
       refine as_ F rfl fun a F => ?_
       refine wpList_nil ?_
       replace F := F.only [0] (l' := [(0, .bool false)]) rfl
       try dsimp only at k_58
       obtain rfl := Option.some.inj k_58
       exact ⟨_, rfl, F.only [0] rfl, H.px17.px16.px15.px14.px13.px12.px11.px10.px9.px8.px7.px6.px5.px4.px3.px2.px1.px0.fx6.fx5.fx4.fx3.fx1.fx0⟩
     ·rw [if_neg c62] at k_58
      rw [Bool.eq_false_iff.2 c62] at F
      refine of_ F fun a F => ?_
      refine of_ F fun a F => ?_
      refine of_ F fun a F => ?_
      refine of_ F fun a F => ?_
      refine of_ F fun a F => ?_
      refine of_ F fun a F => ?_
      refine of_ F fun a F => ?_
      refine of_ F fun a F => ?_
      refine of_ F fun a F => ?_
      refine of_ F fun a F => ?_
      refine qw F (r_pickF (F.t 67 rfl) (F.ev (x := .const (.bool false)) rfl)) fun a F => ?_
      refine mv F rfl fun a F => ?_
      refine of_ F fun a F => ?_
      refine of_ F fun a F => ?_
      refine qw F (r_pickF (F.t 79 rfl) (F.ev (x := .const (.bool false)) rfl)) fun a F => ?_
      refine mv F rfl fun a F => ?_
      refine of_ F fun a F => ?_
      refine of_ F fun a F => ?_
      refine qw F (r_pickF (F.t 83 rfl) (F.ev (x := .const (.bool false)) rfl)) fun a F => ?_
      refine mv F rfl fun a F => ?_
      refine of_ F fun a F => ?_
      refine of_ F fun a F => ?_
      refine qw F (r_pickF (F.t 87 rfl) (F.ev (x := .const (.bool false)) rfl)) fun a F => ?_
      refine mv F rfl fun a F => ?_
      refine of_ F fun a F => ?_
      refine of_ F fun a F => ?_
      refine qw F (r_pickF (F.t 91 rfl) (F.ev (x := .const (.bool false)) rfl)) fun a F => ?_
      refine mv F rfl fun a F => ?_
      refine of_ F fun a F => ?_
      refine of_ F fun a F => ?_
      refine qw F (r_pickF (F.t 95 rfl) (F.ev (x := .const (.bool false)) rfl)) fun a F => ?_
      refine as_ F rfl fun a F => ?_
      refine wpList_nil ?_
      replace F := F.only [0] (l' := [(0, .bool false)]) rfl
      try dsimp only at k_58
      obtain rfl := Option.some.inj k_58
      exact ⟨_, rfl, F.only [0] rfl, H.px12.px11.px10.px9.px8.px7.px6.px5.px4.px3.px2.px1.px0.fx7.fx6.fx5.fx4.fx3.fx1.fx0⟩
    ·rw [if_neg c61] at k_58
     rw [decide_eq_false c61] at F
     refine of_ F fun a F => ?_
     refine qw F (r_pickF (F.t 64 rfl) (F.ev (x := .const (.bool false)) rfl)) fun a F => ?_
     refine mv F rfl fun a F => ?_
     refine of_ F fun a F => ?_
     refine of_ F fun a F => ?_
     refine of_ F fun a F => ?_
     refine of_ F fun a F => ?_
     refine of_ F fun a F => ?_
     refine of_ F fun a F => ?_
     refine of_ F fun a F => ?_
     refine of_ F fun a F => ?_
     refine of_ F fun a F => ?_
     refine of_ F fun a F => ?_
     refine qw F (r_pickF (F.t 67 rfl) (F.ev (x := .const (.bool false)) rfl)) fun a F => ?_
     refine mv F rfl fun a F => ?_
     refine of_ F fun a F => ?_
     refine of_ F fun a F => ?_
     refine qw F (r_pickF (F.t 79 rfl) (F.ev (x := .const (.bool false)) rfl)) fun a F => ?_
     refine mv F rfl fun a F => ?_
     refine of_ F fun a F => ?_
     refine of_ F fun a F => ?_
     refine qw F (r_pickF (F.t 83 rfl) (F.ev (x := .const (.bool false)) rfl)) fun a F => ?_
     refine mv F rfl fun a F => ?_
     refine of_ F fun a F => ?_
     refine of_ F fun a F => ?_
     refine qw F (r_pickF (F.t 87 rfl) (F.ev (x := .const (.bool false)) rfl)) fun a F => ?_
     refine mv F rfl fun a F => ?_
     refine of_ F fun a F => ?_
     refine of_ F fun a F => ?_
     refine qw F (r_pickF (F.t 91 rfl) (F.ev (x := .const (.bool false)) rfl)) fun a F => ?_
     refine mv F rfl fun a F => ?_
     refine of_ F fun a F => ?_
     refine of_ F fun a F => ?_
     refine qw F (r_pickF (F.t 95 rfl) (F.ev (x := .const (.bool false)) rfl)) fun a F => ?_
     refine as_ F rfl fun a F => ?_
     refine wpList_nil ?_
     replace F := F.only [0] (l' := [(0, .bool false)]) rfl
     try dsimp only at k_58
     obtain rfl := Option.some.inj k_58
     exact ⟨_, rfl, F.only [0] rfl, H.px12.px11.px10.px9.px8.px7.px6.px5.px4.px3.px2.px1.px0.fx7.fx6.fx5.fx4.fx3.fx1.fx0⟩
   ·rw [if_neg c60] at k_58
    rw [decide_eq_false c60] at F
    refine of_ F fun a F => ?_
    refine of_ F fun a F => ?_
    refine qw F (r_pickF (F.t 60 rfl) (F.ev (x := .const (.bool false)) rfl)) fun a F => ?_
    refine mv F rfl fun a F => ?_
    refine of_ F fun a F => ?_
    refine qw F (r_pickF (F.t 64 rfl) (F.ev (x := .const (.bool false)) rfl)) fun a F => ?_
    refine mv F rfl fun a F => ?_
    refine of_ F fun a F => ?_
    refine of_ F fun a F => ?_
    refine of_ F fun a F => ?_
    refine of_ F fun a F => ?_
    refine of_ F fun a F => ?_
    refine of_ F fun a F => ?_
    refine of_ F fun a F => ?_
    refine of_ F fun a F => ?_
    refine of_ F fun a F => ?_
    refine of_ F fun a F => ?_
    refine qw F (r_pickF (F.t 67 rfl) (F.ev (x := .const (.bool false)) rfl)) fun a F => ?_
    refine mv F rfl fun a F => ?_
    refine of_ F fun a F => ?_
    refine of_ F fun a F => ?_
    refine qw F (r_pickF (F.t 79 rfl) (F.ev (x := .const (.bool false)) rfl)) fun a F => ?_
    refine mv F rfl fun a F => ?_
    refine of_ F fun a F => ?_
    refine of_ F fun a F => ?_
    refine qw F (r_pickF (F.t 83 rfl) (F.ev (x := .const (.bool false)) rfl)) fun a F => ?_
    refine mv F rfl fun a F => ?_
    refine of_ F fun a F => ?_
    refine of_ F fun a F => ?_
    refine qw F (r_pickF (F.t 87 rfl) (F.ev (x := .const (.bool false)) rfl)) fun a F => ?_
    refine mv F rfl fun a F => ?_
    refine of_ F fun a F => ?_
    refine of_ F fun a F => ?_
    refine qw F (r_pickF (F.t 91 rfl) (F.ev (x := .const (.bool false)) rfl)) fun a F => ?_
    refine mv F rfl fun a F => ?_
    refine of_ F fun a F => ?_
    refine of_ F fun a F => ?_
    refine qw F (r_pickF (F.t 95 rfl) (F.ev (x := .const (.bool false)) rfl)) fun a F => ?_
    refine as_ F rfl fun a F => ?_
    refine wpList_nil ?_
    replace F := F.only [0] (l' := [(0, .bool false)]) rfl
    try dsimp only at k_58
    obtain rfl := Option.some.inj k_58
    exact ⟨_, rfl, F.only [0] rfl, H.px12.px11.px10.px9.px8.px7.px6.px5.px4.px3.px2.px1.px0.fx7.fx6.fx5.fx4.fx3.fx1.fx0⟩
  ·rintro a w ⟨x58, rfl, F, H⟩
   try dsimp only at h F H
   refine wp_ret ?_
   try dsimp only at h
   obtain rfl := Option.some.inj h
   exact RET _ _ (ret1 F rfl rfl ⟨_, rfl, rfl, H.fx0⟩)
end Go.Proofs.Ytdkdaggpfgajlaa
