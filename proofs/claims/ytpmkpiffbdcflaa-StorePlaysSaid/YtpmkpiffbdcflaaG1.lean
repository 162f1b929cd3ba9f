/- What the functions compute. Printed by wip/gen. -/
import Derived.Test.YtpmkpiffbdcflaaG0
set_option linter.unusedVariables false
set_option linter.unusedSimpArgs false
set_option maxHeartbeats 4000000
set_option maxRecDepth 20000
namespace Go.Proofs.Ytpmkpiffbdcflaa
open Go Go.RowKit
def region_Lay_b2 (a1 : Int) (a3 : Int) (a5 : List (List Int)) (x23 : Int) : (Int × Int × disk_Disk) → Option (Int × Int × disk_Disk ⊕ (disk_Disk ⊕ (Int × disk_Disk)))
 | (x49, x50, x51) => (if x49 < (a5.length : Int) then (if 0 ≤ x49 ∧ x49 < (a5.length : Int) then ((((sector_Put_f ((⟨a3, x50, x23, (a5.length : Int), (a5.getD (x49 : Int).toNat [])⟩ : api_Sector))).bind fun x65 => ((disk_Disk_Write_f x51 (IntKind.i64.wrap (a1 + x50)) x65).bind fun (x69, x70) => some (x69, x70))) : Option (Int × disk_Disk)).bind fun (x61, x62) => (if x61 ≠ 0 then some (.inr (.inr (x61, x62))) else some (.inl (IntKind.i64.wrap (x49 + 1), IntKind.i64.wrap (x50 + 1), x62)))) else none) else some (.inr (.inl x51)))
def region_Lay_b1 (a1 : Int) (a3 : Int) (a4 : List Int) (a5 : List (List Int)) (x23 : Int) : (Int × disk_Disk) → Option (Int × disk_Disk ⊕ ((Int × disk_Disk) ⊕ (Int × disk_Disk)))
 | (x28, x29) => (if x28 < x23 then (if 0 ≤ IntKind.i64.wrap (50 * x28) ∧ IntKind.i64.wrap (50 * x28) ≤ min (IntKind.i64.wrap (50 * (IntKind.i64.wrap (x28 + 1)))) (a4.length : Int) ∧ min (IntKind.i64.wrap (50 * (IntKind.i64.wrap (x28 + 1)))) (a4.length : Int) ≤ (a4.length : Int) then ((((sector_Put_f ((⟨a3, x28, x23, (a5.length : Int), ((a4.take (min (IntKind.i64.wrap (50 * (IntKind.i64.wrap (x28 + 1)))) (a4.length : Int)).toNat).drop (IntKind.i64.wrap (50 * x28)).toNat)⟩ : api_Sector))).bind fun x41 => ((disk_Disk_Write_f x29 (IntKind.i64.wrap (a1 + x28)) x41).bind fun (x45, x46) => some (x45, x46))) : Option (Int × disk_Disk)).bind fun (x37, x38) => (if x37 ≠ 0 then some (.inr (.inr (x37, x38))) else some (.inl (IntKind.i64.wrap (x28 + 1), x38)))) else none) else some (.inr (.inl (x28, x29))))
def region_Lay_b0 (a0 : disk_Disk) (a5 : List (List Int)) : Int → Option (Int ⊕ (Unit ⊕ (Int × disk_Disk)))
 | x11 => (if x11 < (a5.length : Int) then (if 0 ≤ x11 ∧ x11 < (a5.length : Int) then ((region_entry_f ((a5.getD (x11 : Int).toNat []))).bind fun x20 => (if x20 = true then some (.inl (IntKind.i64.wrap (x11 + 1))) else some (.inr (.inr (1, a0))))) else none) else some (.inr (.inl ())))
def region_Lay_f (a0 : disk_Disk) (a1 : Int) (a2 : Int) (a3 : Int) (a4 : List Int) (a5 : List (List Int)) : Option (Int × disk_Disk) :=
 (if a3 < 1 then some (1, a0) else (if a3 > 281474976710656 then some (1, a0) else ((region_state_f a4).bind fun x7 => (if x7 = true then (if (a5.length : Int) > 1000 then some (1, a0) else ((lp (region_Lay_b0 a0 a5) 0).bind fun q => match q with | .inl _ => ((region_parts_f a4).bind fun x23 => (if (IntKind.i64.wrap (x23 + (a5.length : Int))) > a2 then some (5, a0) else ((lp (region_Lay_b1 a1 a3 a4 a5 x23) (0, a0)).bind fun q => match q with | .inl (x30, x31) => ((lp (region_Lay_b2 a1 a3 a5 x23) (0, x30, x31)).bind fun q => match q with | .inl x52 => some (0, x52) | .inr r => some r) | .inr r => some r))) | .inr r => some r)) else some (1, a0)))))
theorem region_Lay_ok {w0 w : World} {ps : List PF} {fs : List SF} {a0 : disk_Disk} {g0_ : Nat} {a1 : Int} {a2 : Int} {a3 : Int} {a4 : List Int} {A4_ : Option Addr} {c4_ : Nat} {a5 : List (List Int)} {A5_ : Option Addr} {c5_ : Nat} {r0 : Int} {s0 : disk_Disk} (H : Hp w0 (rd kByte A4_ c4_ a4 :: rd (kSlice kByte) A5_ c5_ a5 :: ps) (obj_disk_Disk g0_ a0 :: fs) w) (h : region_Lay_f a0 a1 a2 a3 a4 a5 = some (r0, s0)) :
  Calls Try.prog 44 [pt g0_, .int .i64 a1, .int .i64 a2, .int .i64 a3, .slice A4_ a4.length c4_, .slice A5_ a5.length c5_].toArray w fun e w' => ∃ v, e = .returned v ∧ v = .int .i64 r0 ∧ Hp w0 ps (obj_disk_Disk g0_ s0 :: fs) w' := by
 refine enter [pt g0_, .int .i64 a1, .int .i64 a2, .int .i64 a3, .slice A4_ a4.length c4_, .slice A5_ a5.length c5_] 91 Try.func44 fun Q a NP RET NRM F => ?_
 replace NP := np NP
 unfold region_Lay_f at h
 refine rg ?_
 refine ls (lbox F H rfl (cs := [pt g0_]) rfl fun g1 w a H F => ?_)
 refine ls (lbox F H rfl (cs := [.int .i64 a1]) rfl fun g2 w a H F => ?_)
 refine ls (lbox F H rfl (cs := [.int .i64 a3]) rfl fun g3 w a H F => ?_)
 refine ls (lbox F H rfl (cs := [.slice A5_ a5.length c5_]) rfl fun g4 w a H F => ?_)
 refine as_ F (v := .int .i64 0) rfl fun a F => ?_
 refine rgend ?_
 replace F := F.only [11, 9, 7, 6, 2, 4] (l' := [(11, _), (9, _), (7, _), (6, _), (2, _), (4, _)]) rfl
 refine wp_seq ?_
 refine rg ?_
 refine qw F (r_ld (F.t 9 rfl) (cel_cell (o := 0) (H.cell 1 rfl) rfl) one2) fun a F => ?_
 refine qw F (r_lt (F.t 23 rfl) (F.k (.int .i64 1))) fun a F => ?_
 refine mv F rfl fun a F => ?_
 by_cases c5 : a3 < 1
 ·rw [if_pos c5] at h
  rw [decide_eq_true c5] at F
  iterate 2 refine of_ F fun a F => ?_
  refine qw F (r_pickT (F.t 25 rfl) (F.k (.bool true))) fun a F => ?_
  refine mv F rfl fun a F => ?_
  iterate 3 refine of_ F fun a F => ?_
  refine qw F (r_pickT (F.t 29 rfl) (F.k (.bool true))) fun a F => ?_
  refine mv F rfl fun a F => ?_
  iterate 3 refine of_ F fun a F => ?_
  refine qw F (r_pickT (F.t 34 rfl) (F.k (.bool true))) fun a F => ?_
  refine rgend ?_
  replace F := F.only [38, 11, 9, 7, 6, 2, 4] (l' := [(38, _), (11, _), (9, _), (7, _), (6, _), (2, _), (4, _)]) rfl
  refine wp_cond_true (F.ev rfl) ?_
  refine rg ?_
  refine as_ F (v := .int .i64 1) rfl fun a F => ?_
  refine rgend ?_
  replace F := F.only [12] (l' := [(12, _)]) rfl
  refine wp_ret ?_
  try dsimp only at h
  obtain ⟨rfl, rfl⟩ := Prod.mk.inj (Option.some.inj h)
  exact RET _ _ (ret1 F rfl rfl ⟨_, rfl, rfl, H.px1.px0.fx3.fx2.fx1.fx0⟩)
 rw [if_neg c5] at h
 rw [decide_eq_false c5] at F
 refine qw F (r_ld (F.t 9 rfl) (cel_cell (o := 0) (H.cell 1 rfl) rfl) one2) fun a F => ?_
 refine qw F (r_gt (F.t 26 rfl) (F.k (.int .i64 281474976710656))) fun a F => ?_
 refine qw F (r_pickF (F.t 25 rfl) (F.t 27 rfl)) fun a F => ?_
 refine mv F rfl fun a F => ?_
 by_cases c6 : a3 > 281474976710656
 ·rw [if_pos c6] at h
  rw [decide_eq_true c6] at F
  iterate 3 refine of_ F fun a F => ?_
  refine qw F (r_pickT (F.t 29 rfl) (F.k (.bool true))) fun a F => ?_
  refine mv F rfl fun a F => ?_
  iterate 3 refine of_ F fun a F => ?_
  refine qw F (r_pickT (F.t 34 rfl) (F.k (.bool true))) fun a F => ?_
  refine rgend ?_
  replace F := F.only [38, 11, 9, 7, 6, 2, 4] (l' := [(38, _), (11, _), (9, _), (7, _), (6, _), (2, _), (4, _)]) rfl
  refine wp_cond_true (F.ev rfl) ?_
  refine rg ?_
  refine as_ F (v := .int .i64 1) rfl fun a F => ?_
  refine rgend ?_
  replace F := F.only [12] (l' := [(12, _)]) rfl
  refine wp_ret ?_
  try dsimp only at h
  obtain ⟨rfl, rfl⟩ := Prod.mk.inj (Option.some.inj h)
  exact RET _ _ (ret1 F rfl rfl ⟨_, rfl, rfl, H.px1.px0.fx3.fx2.fx1.fx0⟩)
 rw [if_neg c6] at h
 rw [decide_eq_false c6] at F
 refine mv F rfl fun a F => ?_
 obtain ⟨x7, e8, h⟩ := Option.bind_eq_some_iff.1 h
 try dsimp only at h
 refine ls (call F Try.func78 (region_state_ok (a0 := a4) (H) e8) rfl rfl fun v w hR a F => ?_)
 obtain ⟨rfl, H⟩ := hR
 refine qw F (r_not (F.t 31 rfl)) fun a F => ?_
 refine qw F (r_pickF (F.t 29 rfl) (F.t 32 rfl)) fun a F => ?_
 refine mv F rfl fun a F => ?_
 by_cases c9 : x7 = true
 ·rw [if_pos c9] at h
  rw [c9] at F
  refine qw F (r_ld (F.t 11 rfl) (cel_cell (o := 0) (H.cell 0 rfl) rfl) one30) fun a F => ?_
  refine qw F (r_len (F.t 35 rfl) Try.underlying30) fun a F => ?_
  refine qw F (r_gt (F.t 36 rfl) (F.k (.int .i64 1000))) fun a F => ?_
  refine qw F (r_pickF (F.t 34 rfl) (F.t 37 rfl)) fun a F => ?_
  refine rgend ?_
  replace F := F.only [38, 11, 9, 7, 6, 2, 4] (l' := [(38, _), (11, _), (9, _), (7, _), (6, _), (2, _), (4, _)]) rfl
  by_cases c10 : (a5.length : Int) > 1000
  ·rw [if_pos c10] at h
   rw [decide_eq_true c10] at F
   refine wp_cond_true (F.ev rfl) ?_
   refine rg ?_
   refine as_ F (v := .int .i64 1) rfl fun a F => ?_
   refine rgend ?_
   replace F := F.only [12] (l' := [(12, _)]) rfl
   refine wp_ret ?_
   try dsimp only at h
   obtain ⟨rfl, rfl⟩ := Prod.mk.inj (Option.some.inj h)
   exact RET _ _ (ret1 F rfl rfl ⟨_, rfl, rfl, H.px1.px0.fx3.fx2.fx1.fx0⟩)
  rw [if_neg c10] at h
  rw [decide_eq_false c10] at F
  refine wp_cond_false (F.ev rfl) ?_
  refine wp_skip ?_
  refine wp_seq ?_
  refine rg ?_
  refine qw F (r_ld (F.t 11 rfl) (cel_cell (o := 0) (H.cell 0 rfl) rfl) one30) fun a F => ?_
  refine qw F (r_len (F.t 39 rfl) Try.underlying30) fun a F => ?_
  refine mv F (v := .int .i64 0) rfl fun a F => ?_
  refine rgend ?_
  obtain ⟨o_11, k_11, h⟩ := Option.bind_eq_some_iff.1 h
  refine cut (fun a w => Sum.inl () = o_11 ∧ Fr 91 [] [(2, .int .i64 a2), (4, .slice A4_ a4.length c4_), (6, pt g1), (7, pt g2), (9, pt g3), (11, pt g4)] a ∧ Hp w0 (rd kByte A4_ c4_ a4 :: rd (kSlice kByte) A5_ c5_ a5 :: ps) (cel g4 [.slice A5_ a5.length c5_] 30 :: cel g2 [.int .i64 a1] 3 :: obj_disk_Disk g0_ a0 :: cel g1 [pt g0_] 24 :: cel g3 [.int .i64 a3] 2 :: fs) w) (wp_block ?_) ?_
  ·refine wloop (region_Lay_b0 a0 a5) (fun (s : Int) a w => Fr 91 [] [(2, .int .i64 a2), (4, .slice A4_ a4.length c4_), (6, pt g1), (7, pt g2), (9, pt g3), (11, pt g4), (39, .slice A5_ a5.length c5_), (40, .int .i64 (a5.length : Int)), (41, .int .i64 s)] a ∧ Hp w0 (rd kByte A4_ c4_ a4 :: rd (kSlice kByte) A5_ c5_ a5 :: ps) (cel g4 [.slice A5_ a5.length c5_] 30 :: cel g2 [.int .i64 a1] 3 :: obj_disk_Disk g0_ a0 :: cel g1 [pt g0_] 24 :: cel g3 [.int .i64 a3] 2 :: fs) w) k_11 ⟨F.only [2, 4, 6, 7, 9, 11, 39, 40, 41] rfl, H.f1.f3.f4.f4.f4⟩ ?_
   rintro x11 a w q_11 j_11 u_11 ⟨F, H⟩
   unfold region_Lay_b0 at j_11
   try dsimp only at j_11 F H
   refine rg ?_
   refine qw F (r_lt (F.t 41 rfl) (F.t 40 rfl)) fun a F => ?_
   refine rgend ?_
   refine wp_seq ?_
   by_cases c13 : x11 < (a5.length : Int)
   ·rw [if_pos c13] at j_11
    rw [decide_eq_true c13] at F
    refine wp_cond_true (F.ev rfl) ?_
    refine wp_skip ?_
    refine wp_seq ?_
    refine wp_block ?_
    refine rg ?_
    obtain ⟨c14, j_11⟩ := guardO j_11
    obtain ⟨g15, o16, s17, hr, H⟩ := H.ix [] 1 rfl (F.t 39 rfl) (F.t 41 rfl) Try.underlying30 sz29 (by decide) c14.1 c14.2
    obtain ⟨A18, c19, rfl, H⟩ := H.says_slice 1 rfl
    refine qw F (hr _ _ _ _ _ _) fun a F => ?_
    refine qw F (r_ld (F.t 43 rfl) (range_cell (j := 0) (H.range 1 rfl) rfl) one29) fun a F => ?_
    refine as_ F rfl fun a F => ?_
    refine rgend ?_
    refine rg ?_
    refine mv F rfl fun a F => ?_
    obtain ⟨x20, e21, j_11⟩ := Option.bind_eq_some_iff.1 j_11
    try dsimp only at j_11
    refine ls (call F Try.func79 (region_entry_ok (a0 := (a5.getD (x11 : Int).toNat [])) (H) e21) rfl rfl fun v w hR a F => ?_)
    obtain ⟨rfl, H⟩ := hR
    refine qw F (r_not (F.t 46 rfl)) fun a F => ?_
    refine rgend ?_
    replace F := F.only [47, 2, 4, 6, 7, 9, 11, 39, 40, 41] (l' := [(47, _), (2, _), (4, _), (6, _), (7, _), (9, _), (11, _), (39, _), (40, _), (41, _)]) rfl
    by_cases c22 : x20 = true
    ·rw [if_pos c22] at j_11
     rw [c22] at F
     refine wp_cond_false (F.ev rfl) ?_
     refine wp_skip ?_
     refine wp_region_lit ?_
     refine qw F (r_add (F.t 41 rfl) (F.k (.int .i64 1))) fun a F => ?_
     refine mv F rfl fun a F => ?_
     refine wpList_nil ?_
     try dsimp only at j_11
     obtain rfl := Option.some.inj j_11
     exact ⟨_, rfl, F.only [2, 4, 6, 7, 9, 11, 39, 40, 41] rfl, H.px2.px1.px0⟩
    rw [if_neg c22] at j_11
    rw [Bool.eq_false_iff.2 c22] at F
    refine wp_cond_true (F.ev rfl) ?_
    refine rg ?_
    refine as_ F (v := .int .i64 1) rfl fun a F => ?_
    refine rgend ?_
    replace F := F.only [12] (l' := [(12, _)]) rfl
    refine wp_ret ?_
    try dsimp only at j_11
    obtain rfl := Option.some.inj j_11
    obtain rfl := u_11 _ rfl
    try dsimp only at h
    obtain ⟨rfl, rfl⟩ := Prod.mk.inj (Option.some.inj h)
    exact RET _ _ (ret1 F rfl rfl ⟨_, rfl, rfl, H.px4.px3.px2.px1.px0.fx4.fx3.fx1.fx0⟩)
   rw [if_neg c13] at j_11
   rw [decide_eq_false c13] at F
   refine wp_cond_false (F.ev rfl) ?_
   refine wp_exit ?_
   try dsimp only at j_11
   obtain rfl := Option.some.inj j_11
   obtain rfl := u_11 _ rfl
   repeat (with_reducible refine exT ?_)
   with_reducible refine exB ?_
   exact ⟨rfl, F.only [2, 4, 6, 7, 9, 11] rfl, H⟩
  rintro a w ⟨rfl, F, H⟩
  try dsimp only at h F H
  refine rg ?_
  refine mv F rfl fun a F => ?_
  obtain ⟨x23, e24, h⟩ := Option.bind_eq_some_iff.1 h
  try dsimp only at h
  refine ls (call F Try.func80 (region_parts_ok (a0 := a4) (H) e24) rfl rfl fun v w hR a F => ?_)
  obtain ⟨rfl, H⟩ := hR
  refine ls (lal F H ti3 (cs := [.int .i64 0]) rfl fun g25 w a H F => ?_)
  refine stF F [.int .i64 x23] H rfl rfl sz3 fun w a H F => ?_
  refine rgend ?_
  refine wp_seq ?_
  refine rg ?_
  refine qw F (r_ld (F.t 15 rfl) (cel_cell (o := 0) (H.cell 0 rfl) rfl) one3) fun a F => ?_
  refine qw F (r_ld (F.t 11 rfl) (cel_cell (o := 0) (H.cell 1 rfl) rfl) one30) fun a F => ?_
  refine qw F (r_len (F.t 52 rfl) Try.underlying30) fun a F => ?_
  refine qw F (r_add (F.t 51 rfl) (F.t 53 rfl)) fun a F => ?_
  refine mv F rfl fun a F => ?_
  refine qw F (r_gt (F.t 54 rfl) (F.t 55 rfl)) fun a F => ?_
  refine rgend ?_
  replace F := F.only [56, 15, 4, 6, 7, 9, 11] (l' := [(56, _), (15, _), (4, _), (6, _), (7, _), (9, _), (11, _)]) rfl
  by_cases c26 : (IntKind.i64.wrap (x23 + (a5.length : Int))) > a2
  ·rw [if_pos c26] at h
   rw [decide_eq_true c26] at F
   refine wp_cond_true (F.ev rfl) ?_
   refine rg ?_
   refine as_ F (v := .int .i64 5) rfl fun a F => ?_
   refine rgend ?_
   replace F := F.only [12] (l' := [(12, _)]) rfl
   refine wp_ret ?_
   try dsimp only at h
   obtain ⟨rfl, rfl⟩ := Prod.mk.inj (Option.some.inj h)
   exact RET _ _ (ret1 F rfl rfl ⟨_, rfl, rfl, H.px1.px0.fx5.fx4.fx2.fx1.fx0⟩)
  rw [if_neg c26] at h
  rw [decide_eq_false c26] at F
  refine wp_cond_false (F.ev rfl) ?_
  refine wp_skip ?_
  refine rg ?_
  refine ls (lal F H ti3 (cs := [.int .i64 0]) rfl fun g27 w a H F => ?_)
  refine stF F [.int .i64 0] H rfl rfl sz3 fun w a H F => ?_
  refine rgend ?_
  refine rg ?_
  refine qw F (r_mf (f' := #[]) (c' := #[pt g3, pt g27, pt g25, pt g4, pt g1, pt g2]) (by simp) (by rw [List.map_toArray]; exact congrArg _ (F.evs rfl))) fun a F => ?_
  refine as_ F rfl fun a F => ?_
  refine rgend ?_
  replace F := F.only [17, 15, 4, 11] (l' := [(17, _), (15, _), (4, _), (11, _)]) rfl
  refine wp_seq ?_
  refine rg ?_
  refine qw F (r_ld (F.t 15 rfl) (cel_cell (o := 0) (H.cell 1 rfl) rfl) one3) fun a F => ?_
  refine mv F (v := .int .i64 0) rfl fun a F => ?_
  refine rgend ?_
  obtain ⟨o_31, k_31, h⟩ := Option.bind_eq_some_iff.1 h
  refine cut (fun a w => ∃ (x30 : Int) (x31 : disk_Disk), Sum.inl (x30, x31) = o_31 ∧ Fr 91 [] [(11, pt g4), (17, .func (.func 81) #[] #[pt g3, pt g27, pt g25, pt g4, pt g1, pt g2])] a ∧ Hp w0 (rd (kSlice kByte) A5_ c5_ a5 :: ps) (cel g27 [.int .i64 x30] 3 :: cel g4 [.slice A5_ a5.length c5_] 30 :: cel g2 [.int .i64 a1] 3 :: cel g25 [.int .i64 x23] 3 :: obj_disk_Disk g0_ x31 :: cel g1 [pt g0_] 24 :: cel g3 [.int .i64 a3] 2 :: fs) w) (wp_block ?_) ?_
  ·refine wloop (region_Lay_b1 a1 a3 a4 a5 x23) (fun (s : Int × disk_Disk) a w => Fr 91 [] [(4, .slice A4_ a4.length c4_), (11, pt g4), (17, .func (.func 81) #[] #[pt g3, pt g27, pt g25, pt g4, pt g1, pt g2]), (58, .int .i64 x23), (59, .int .i64 s.1)] a ∧ Hp w0 (rd kByte A4_ c4_ a4 :: rd (kSlice kByte) A5_ c5_ a5 :: ps) (cel g27 [.int .i64 s.1] 3 :: cel g4 [.slice A5_ a5.length c5_] 30 :: cel g2 [.int .i64 a1] 3 :: cel g25 [.int .i64 x23] 3 :: obj_disk_Disk g0_ s.2 :: cel g1 [pt g0_] 24 :: cel g3 [.int .i64 a3] 2 :: fs) w) k_31 ⟨F.only [4, 11, 17, 58, 59] rfl, H.f6.f6.f6.f4.f6.f6.f6⟩ ?_
   rintro ⟨x28, x29⟩ a w q_31 j_31 u_31 ⟨F, H⟩
   unfold region_Lay_b1 at j_31
   try dsimp only at j_31 F H
   refine rg ?_
   refine qw F (r_lt (F.t 59 rfl) (F.t 58 rfl)) fun a F => ?_
   refine rgend ?_
   refine wp_seq ?_
   by_cases c33 : x28 < x23
   ·rw [if_pos c33] at j_31
    rw [decide_eq_true c33] at F
    refine wp_cond_true (F.ev rfl) ?_
    refine wp_skip ?_
    refine wp_seq ?_
    refine wp_block ?_
    refine rg ?_
    refine mv F rfl fun a F => ?_
    refine as_ F rfl fun a F => ?_
    refine rgend ?_
    refine rg ?_
    iterate 3 refine mv F rfl fun a F => ?_
    refine qw F (r_mul (F.k (.int .i64 50)) (F.t 64 rfl)) fun a F => ?_
    refine mv F rfl fun a F => ?_
    refine qw F (r_add (F.t 66 rfl) (F.k (.int .i64 1))) fun a F => ?_
    refine qw F (r_mul (F.k (.int .i64 50)) (F.t 67 rfl)) fun a F => ?_
    refine mv F rfl fun a F => ?_
    refine qw F (r_len (F.t 69 rfl) Try.underlying29) fun a F => ?_
    refine qw F (r_min (F.t 68 rfl) (F.t 70 rfl)) fun a F => ?_
    obtain ⟨c34, j_31⟩ := guardO j_31
    obtain ⟨A35, c36, hr, H⟩ := Hp.sl (kd := kByte) (jl := IntKind.i64.wrap (50 * x28)) (jh := min (IntKind.i64.wrap (50 * (IntKind.i64.wrap (x28 + 1)))) (a4.length : Int)) H 0 rfl (F.t 63 rfl) Try.underlying29 sz5 (.inr ⟨_, _, rfl, (F.t 65 rfl)⟩) (.inr ⟨_, _, rfl, (F.t 71 rfl)⟩) c34
    refine qw F (hr _ _ _ _ _ _) fun a F => ?_
    obtain ⟨o_38, k_38, j_31⟩ := Option.bind_eq_some_iff.1 j_31
    refine ls (call F Try.func81 (R := fun v w => ∃ (x37 : Int) (x38 : disk_Disk), (x37, x38) = o_38 ∧ v = .int .i64 x37 ∧ Hp w0 (rd kByte A4_ c4_ a4 :: rd kByte A35 c36 (((a4.take (min (IntKind.i64.wrap (50 * (IntKind.i64.wrap (x28 + 1)))) (a4.length : Int)).toNat).drop (IntKind.i64.wrap (50 * x28)).toNat)) :: rd (kSlice kByte) A5_ c5_ a5 :: ps) (cel g27 [.int .i64 (IntKind.i64.wrap (x28 + 1))] 3 :: cel g4 [.slice A5_ a5.length c5_] 30 :: cel g2 [.int .i64 a1] 3 :: cel g1 [pt g0_] 24 :: cel g25 [.int .i64 x23] 3 :: obj_disk_Disk g0_ x38 :: cel g3 [.int .i64 a3] 2 :: fs) w) (args := [.slice A35 (((a4.take (min (IntKind.i64.wrap (50 * (IntKind.i64.wrap (x28 + 1)))) (a4.length : Int)).toNat).drop (IntKind.i64.wrap (50 * x28)).toNat)).length c36, pt g3, pt g27, pt g25, pt g4, pt g1, pt g2]) (cap := [pt g3, pt g27, pt g25, pt g4, pt g1, pt g2]) ?_ rfl rfl ?_)
    ·refine enter [.slice A35 (((a4.take (min (IntKind.i64.wrap (50 * (IntKind.i64.wrap (x28 + 1)))) (a4.length : Int)).toNat).drop (IntKind.i64.wrap (50 * x28)).toNat)).length c36, pt g3, pt g27, pt g25, pt g4, pt g1, pt g2] 27 Try.func81 fun Q a NP RET NRM F => ?_
     replace NP := np NP
     refine rg ?_
     refine as_ F (v := .int .i64 0) rfl fun a F => ?_
     refine rgend ?_
     refine rg ?_
     refine qw F (r_ld (F.t 1 rfl) (cel_cell (o := 0) (H.cell 6 rfl) rfl) one2) fun a F => ?_
     refine qw F (r_ld (F.t 2 rfl) (cel_cell (o := 0) (H.cell 0 rfl) rfl) one3) fun a F => ?_
     refine qw F (r_ld (F.t 3 rfl) (cel_cell (o := 0) (H.cell 3 rfl) rfl) one3) fun a F => ?_
     refine qw F (r_ld (F.t 4 rfl) (cel_cell (o := 0) (H.cell 1 rfl) rfl) one30) fun a F => ?_
     refine qw F (r_len (F.t 13 rfl) Try.underlying30) fun a F => ?_
     refine mv F rfl fun a F => ?_
     refine ls (lbd F (vs := [(0, .int .i64 a3), (1, .int .i64 x28), (2, .int .i64 x23), (3, .int .i64 (a5.length : Int)), (4, .slice A35 (((a4.take (min (IntKind.i64.wrap (50 * (IntKind.i64.wrap (x28 + 1)))) (a4.length : Int)).toNat).drop (IntKind.i64.wrap (50 * x28)).toNat)).length c36)]) (cs := [.int .i64 a3, .int .i64 x28, .int .i64 x23, .int .i64 (a5.length : Int), .slice A35 (((a4.take (min (IntKind.i64.wrap (50 * (IntKind.i64.wrap (x28 + 1)))) (a4.length : Int)).toNat).drop (IntKind.i64.wrap (50 * x28)).toNat)).length c36]) rfl (fun w => by kernel_rfl) fun a F => ?_)
     refine ls (lal F H ti53 (cs := [.int .i64 0, .int .i64 0, .int .i64 0, .int .i64 0, .slice none 0 0]) rfl fun g40 w a H F => ?_)
     refine stF F [.int .i64 a3, .int .i64 x28, .int .i64 x23, .int .i64 (a5.length : Int), .slice A35 (((a4.take (min (IntKind.i64.wrap (50 * (IntKind.i64.wrap (x28 + 1)))) (a4.length : Int)).toNat).drop (IntKind.i64.wrap (50 * x28)).toNat)).length c36] H rfl rfl sz53 fun w a H F => ?_
     refine rgend ?_
     replace F := F.only [9, 2, 5, 6] (l' := [(9, _), (2, _), (5, _), (6, _)]) rfl
     refine rg ?_
     refine qw F (r_ld (F.t 2 rfl) (cel_cell (o := 0) (H.cell 1 rfl) rfl) one3) fun a F => ?_
     refine qw F (r_add (F.t 17 rfl) (F.k (.int .i64 1))) fun a F => ?_
     refine stF F [.int .i64 (IntKind.i64.wrap (x28 + 1))] H.f7.f7.f7.f7.f7.f7.f6.f7 rfl rfl sz3 fun w a H F => ?_
     refine rgend ?_
     refine wp_seq ?_
     replace H := H.drew
     have HS := H.fx5
     refine dr (fun w => Hp w0 (rd kByte A35 c36 (((a4.take (min (IntKind.i64.wrap (50 * (IntKind.i64.wrap (x28 + 1)))) (a4.length : Int)).toNat).drop (IntKind.i64.wrap (50 * x28)).toNat)) :: rd kByte A4_ c4_ a4 :: rd (kSlice kByte) A5_ c5_ a5 :: ps) (cel g27 [.int .i64 (IntKind.i64.wrap (x28 + 1))] 3 :: cel g40 [.int .i64 a3, .int .i64 x28, .int .i64 x23, .int .i64 (a5.length : Int), .slice A35 (((a4.take (min (IntKind.i64.wrap (50 * (IntKind.i64.wrap (x28 + 1)))) (a4.length : Int)).toNat).drop (IntKind.i64.wrap (50 * x28)).toNat)).length c36] 53 :: cel g4 [.slice A5_ a5.length c5_] 30 :: cel g2 [.int .i64 a1] 3 :: cel g25 [.int .i64 x23] 3 :: cel g1 [pt g0_] 24 :: cel g3 [.int .i64 a3] 2 :: fs) w) _ (by kernel_rfl) ?_ (n := 9)
     refine dk 0 F rfl NP HS (fun w S => (r_ld (F.t 5 rfl) (cel_cell (o := 0) (S.cell 5 rfl) rfl) one24)) fun a F => ?_
     refine dk 1 F rfl NP HS (fun w S => (r_ld (F.t 6 rfl) (cel_cell (o := 0) (S.cell 3 rfl) rfl) one3)) fun a F => ?_
     refine dk 2 F rfl NP HS (fun w S => (r_fa (off := 1) (F.t 9 rfl) fa53_1)) fun a F => ?_
     refine dk 3 F rfl NP HS (fun w S => (r_ld (F.t 21 rfl) (cel_cell (o := 1) (S.cell 1 rfl) rfl) one3)) fun a F => ?_
     refine dk 4 F rfl NP HS (fun w S => (r_add (F.t 20 rfl) (F.t 22 rfl))) fun a F => ?_
     refine dk 5 F rfl NP HS (fun w S => (r_ldA (F.t 9 rfl) (cel_range (o := 0) (n := 5) (vs := [.int .i64 a3, .int .i64 x28, .int .i64 x23, .int .i64 (a5.length : Int), .slice A35 (((a4.take (min (IntKind.i64.wrap (50 * (IntKind.i64.wrap (x28 + 1)))) (a4.length : Int)).toNat).drop (IntKind.i64.wrap (50 * x28)).toNat)).length c36]) (S.cell 1 rfl) rfl) agg53 rfl)) fun a F => ?_
     obtain ⟨x41, e42, k_38⟩ := Option.bind_eq_some_iff.1 k_38
     try dsimp only at k_38
     refine d1 6 rfl (by kernel_rfl) (call F Try.func82 (sector_Put_ok (a0 := (⟨a3, x28, x23, (a5.length : Int), ((a4.take (min (IntKind.i64.wrap (50 * (IntKind.i64.wrap (x28 + 1)))) (a4.length : Int)).toNat).drop (IntKind.i64.wrap (50 * x28)).toNat)⟩ : api_Sector)) (H.p0) e42) rfl rfl fun v w hR a F => ?_)
     obtain ⟨A43, c44, rfl, H⟩ := hR
     have HS := H.fx5
     refine kg _ HS (fun w S => S.px0) ?_
     obtain ⟨⟨x45, x46⟩, e47, k_38⟩ := Option.bind_eq_some_iff.1 k_38
     try dsimp only at k_38
     refine d1 7 rfl (by kernel_rfl) (call F Try.func26 (disk_Disk_Write_ok (H.p0.f7.f7.f6.f6.f6.f6.f6.f7) e47) rfl rfl fun v w hR a F => ?_)
     obtain ⟨rfl, H⟩ := hR
     have HS := H.fx0
     refine kg _ HS (fun w S => S) ?_
     refine dk 8 F rfl NP HS (fun w S => (r_as (F.t 26 rfl))) fun a F => ?_
     refine ddone (by kernel_rfl) ?_
     replace F := F.only [8] (l' := [(8, _)]) rfl
     refine wp_ret ?_
     try dsimp only at k_38
     obtain rfl := Option.some.inj k_38
     exact RET _ _ (ret1 F rfl rfl ⟨_, rfl, _, _, rfl, rfl, H.p3.p2.p4.px3.px3.px3.px3.f7.f1.f6.f7.f7.f7.f6.fx7⟩)
    rintro v w ⟨x37, x38, rfl, rfl, H⟩ a F
    try dsimp only at j_31 F H
    refine as_ F rfl fun a F => ?_
    refine rgend ?_
    replace F := F.only [19, 4, 11, 17, 58, 59] (l' := [(19, _), (4, _), (11, _), (17, _), (58, _), (59, _)]) rfl
    refine rg ?_
    refine mv F rfl fun a F => ?_
    refine qw F (r_ne (F.t 74 rfl) (F.k (.int .i64 0))) fun a F => ?_
    refine rgend ?_
    by_cases c48 : x37 ≠ 0
    ·rw [if_pos c48] at j_31
     rw [decide_eq_true c48] at F
     refine wp_cond_true (F.ev rfl) ?_
     refine rg ?_
     refine mv F rfl fun a F => ?_
     refine as_ F rfl fun a F => ?_
     refine rgend ?_
     replace F := F.only [12] (l' := [(12, _)]) rfl
     refine wp_ret ?_
     try dsimp only at j_31
     obtain rfl := Option.some.inj j_31
     obtain rfl := u_31 _ rfl
     try dsimp only at h
     obtain ⟨rfl, rfl⟩ := Prod.mk.inj (Option.some.inj h)
     exact RET _ _ (ret1 F rfl rfl ⟨_, rfl, rfl, H.px2.px1.px0.fx6.fx4.fx3.fx2.fx1.fx0⟩)
    rw [if_neg c48] at j_31
    rw [decide_eq_false c48] at F
    refine wp_cond_false (F.ev rfl) ?_
    refine wp_skip ?_
    refine wp_region_lit ?_
    refine qw F (r_add (F.t 59 rfl) (F.k (.int .i64 1))) fun a F => ?_
    refine mv F rfl fun a F => ?_
    refine wpList_nil ?_
    replace F := F.only [59, 4, 11, 17, 58] (l' := [(59, _), (4, _), (11, _), (17, _), (58, _)]) rfl
    try dsimp only at j_31
    obtain rfl := Option.some.inj j_31
    exact ⟨_, rfl, F.only [4, 11, 17, 58, 59] rfl, H.px1.f6.f4.f6.f6.f6.f6.f6⟩
   rw [if_neg c33] at j_31
   rw [decide_eq_false c33] at F
   refine wp_cond_false (F.ev rfl) ?_
   refine wp_exit ?_
   try dsimp only at j_31
   obtain rfl := Option.some.inj j_31
   obtain rfl := u_31 _ rfl
   repeat (with_reducible refine exT ?_)
   with_reducible refine exB ?_
   exact ⟨_, _, rfl, F.only [11, 17] rfl, H.px0⟩
  rintro a w ⟨x30, x31, rfl, F, H⟩
  try dsimp only at h F H
  refine wp_seq ?_
  refine rg ?_
  refine qw F (r_ld (F.t 11 rfl) (cel_cell (o := 0) (H.cell 1 rfl) rfl) one30) fun a F => ?_
  refine qw F (r_len (F.t 78 rfl) Try.underlying30) fun a F => ?_
  refine mv F (v := .int .i64 0) rfl fun a F => ?_
  refine rgend ?_
  obtain ⟨o_52, k_52, h⟩ := Option.bind_eq_some_iff.1 h
  refine cut (fun a w => ∃ (x52 : disk_Disk), Sum.inl x52 = o_52 ∧ Fr 91 [] [] a ∧ Hp w0 ps (obj_disk_Disk g0_ x52 :: fs) w) (wp_block ?_) ?_
  ·refine wloop (region_Lay_b2 a1 a3 a5 x23) (fun (s : Int × Int × disk_Disk) a w => Fr 91 [] [(17, .func (.func 81) #[] #[pt g3, pt g27, pt g25, pt g4, pt g1, pt g2]), (78, .slice A5_ a5.length c5_), (79, .int .i64 (a5.length : Int)), (80, .int .i64 s.1)] a ∧ Hp w0 (rd (kSlice kByte) A5_ c5_ a5 :: ps) (cel g27 [.int .i64 s.2.1] 3 :: cel g4 [.slice A5_ a5.length c5_] 30 :: cel g2 [.int .i64 a1] 3 :: cel g25 [.int .i64 x23] 3 :: obj_disk_Disk g0_ s.2.2 :: cel g1 [pt g0_] 24 :: cel g3 [.int .i64 a3] 2 :: fs) w) k_52 ⟨F.only [17, 78, 79, 80] rfl, H⟩ ?_
   rintro ⟨x49, x50, x51⟩ a w q_52 j_52 u_52 ⟨F, H⟩
   unfold region_Lay_b2 at j_52
   try dsimp only at j_52 F H
   refine rg ?_
   refine qw F (r_lt (F.t 80 rfl) (F.t 79 rfl)) fun a F => ?_
   refine rgend ?_
   refine wp_seq ?_
   by_cases c54 : x49 < (a5.length : Int)
   ·rw [if_pos c54] at j_52
    rw [decide_eq_true c54] at F
    refine wp_cond_true (F.ev rfl) ?_
    refine wp_skip ?_
    refine wp_seq ?_
    refine wp_block ?_
    refine rg ?_
    obtain ⟨c55, j_52⟩ := guardO j_52
    obtain ⟨g56, o57, s58, hr, H⟩ := H.ix [] 0 rfl (F.t 78 rfl) (F.t 80 rfl) Try.underlying30 sz29 (by decide) c55.1 c55.2
    obtain ⟨A59, c60, rfl, H⟩ := H.says_slice 1 rfl
    refine qw F (hr _ _ _ _ _ _) fun a F => ?_
    refine qw F (r_ld (F.t 82 rfl) (range_cell (j := 0) (H.range 1 rfl) rfl) one29) fun a F => ?_
    refine as_ F rfl fun a F => ?_
    refine rgend ?_
    refine rg ?_
    iterate 2 refine mv F rfl fun a F => ?_
    obtain ⟨o_62, k_62, j_52⟩ := Option.bind_eq_some_iff.1 j_52
    refine ls (call F Try.func81 (R := fun v w => ∃ (x61 : Int) (x62 : disk_Disk), (x61, x62) = o_62 ∧ v = .int .i64 x61 ∧ Hp w0 (rd kByte A59 c60 ((a5.getD (x49 : Int).toNat [])) :: rd (kSlice kByte) A5_ c5_ a5 :: ps) (cel g27 [.int .i64 (IntKind.i64.wrap (x50 + 1))] 3 :: cel g4 [.slice A5_ a5.length c5_] 30 :: cel g2 [.int .i64 a1] 3 :: cel g1 [pt g0_] 24 :: cel g25 [.int .i64 x23] 3 :: obj_disk_Disk g0_ x62 :: cel g3 [.int .i64 a3] 2 :: fs) w) (args := [.slice A59 ((a5.getD (x49 : Int).toNat [])).length c60, pt g3, pt g27, pt g25, pt g4, pt g1, pt g2]) (cap := [pt g3, pt g27, pt g25, pt g4, pt g1, pt g2]) ?_ rfl rfl ?_)
    ·refine enter [.slice A59 ((a5.getD (x49 : Int).toNat [])).length c60, pt g3, pt g27, pt g25, pt g4, pt g1, pt g2] 27 Try.func81 fun Q a NP RET NRM F => ?_
     replace NP := np NP
     refine rg ?_
     refine as_ F (v := .int .i64 0) rfl fun a F => ?_
     refine rgend ?_
     refine rg ?_
     refine qw F (r_ld (F.t 1 rfl) (cel_cell (o := 0) (H.cell 6 rfl) rfl) one2) fun a F => ?_
     refine qw F (r_ld (F.t 2 rfl) (cel_cell (o := 0) (H.cell 0 rfl) rfl) one3) fun a F => ?_
     refine qw F (r_ld (F.t 3 rfl) (cel_cell (o := 0) (H.cell 3 rfl) rfl) one3) fun a F => ?_
     refine qw F (r_ld (F.t 4 rfl) (cel_cell (o := 0) (H.cell 1 rfl) rfl) one30) fun a F => ?_
     refine qw F (r_len (F.t 13 rfl) Try.underlying30) fun a F => ?_
     refine mv F rfl fun a F => ?_
     refine ls (lbd F (vs := [(0, .int .i64 a3), (1, .int .i64 x50), (2, .int .i64 x23), (3, .int .i64 (a5.length : Int)), (4, .slice A59 ((a5.getD (x49 : Int).toNat [])).length c60)]) (cs := [.int .i64 a3, .int .i64 x50, .int .i64 x23, .int .i64 (a5.length : Int), .slice A59 ((a5.getD (x49 : Int).toNat [])).length c60]) rfl (fun w => by kernel_rfl) fun a F => ?_)
     refine ls (lal F H ti53 (cs := [.int .i64 0, .int .i64 0, .int .i64 0, .int .i64 0, .slice none 0 0]) rfl fun g64 w a H F => ?_)
     refine stF F [.int .i64 a3, .int .i64 x50, .int .i64 x23, .int .i64 (a5.length : Int), .slice A59 ((a5.getD (x49 : Int).toNat [])).length c60] H rfl rfl sz53 fun w a H F => ?_
     refine rgend ?_
     replace F := F.only [9, 2, 5, 6] (l' := [(9, _), (2, _), (5, _), (6, _)]) rfl
     refine rg ?_
     refine qw F (r_ld (F.t 2 rfl) (cel_cell (o := 0) (H.cell 1 rfl) rfl) one3) fun a F => ?_
     refine qw F (r_add (F.t 17 rfl) (F.k (.int .i64 1))) fun a F => ?_
     refine stF F [.int .i64 (IntKind.i64.wrap (x50 + 1))] H.f7.f7.f7.f7.f7.f7.f6.f7 rfl rfl sz3 fun w a H F => ?_
     refine rgend ?_
     refine wp_seq ?_
     replace H := H.drew
     have HS := H.fx5
     refine dr (fun w => Hp w0 (rd kByte A59 c60 ((a5.getD (x49 : Int).toNat [])) :: celz g56 o57 [.slice A59 ((a5.getD (x49 : Int).toNat [])).length c60] :: says (kSlice kByte) [.slice A59 ((a5.getD (x49 : Int).toNat [])).length c60] ((a5.getD (x49 : Int).toNat [])) :: rd (kSlice kByte) A5_ c5_ a5 :: ps) (cel g27 [.int .i64 (IntKind.i64.wrap (x50 + 1))] 3 :: cel g64 [.int .i64 a3, .int .i64 x50, .int .i64 x23, .int .i64 (a5.length : Int), .slice A59 ((a5.getD (x49 : Int).toNat [])).length c60] 53 :: cel g4 [.slice A5_ a5.length c5_] 30 :: cel g2 [.int .i64 a1] 3 :: cel g25 [.int .i64 x23] 3 :: cel g1 [pt g0_] 24 :: cel g3 [.int .i64 a3] 2 :: fs) w) _ (by kernel_rfl) ?_ (n := 9)
     refine dk 0 F rfl NP HS (fun w S => (r_ld (F.t 5 rfl) (cel_cell (o := 0) (S.cell 5 rfl) rfl) one24)) fun a F => ?_
     refine dk 1 F rfl NP HS (fun w S => (r_ld (F.t 6 rfl) (cel_cell (o := 0) (S.cell 3 rfl) rfl) one3)) fun a F => ?_
     refine dk 2 F rfl NP HS (fun w S => (r_fa (off := 1) (F.t 9 rfl) fa53_1)) fun a F => ?_
     refine dk 3 F rfl NP HS (fun w S => (r_ld (F.t 21 rfl) (cel_cell (o := 1) (S.cell 1 rfl) rfl) one3)) fun a F => ?_
     refine dk 4 F rfl NP HS (fun w S => (r_add (F.t 20 rfl) (F.t 22 rfl))) fun a F => ?_
     refine dk 5 F rfl NP HS (fun w S => (r_ldA (F.t 9 rfl) (cel_range (o := 0) (n := 5) (vs := [.int .i64 a3, .int .i64 x50, .int .i64 x23, .int .i64 (a5.length : Int), .slice A59 ((a5.getD (x49 : Int).toNat [])).length c60]) (S.cell 1 rfl) rfl) agg53 rfl)) fun a F => ?_
     obtain ⟨x65, e66, k_62⟩ := Option.bind_eq_some_iff.1 k_62
     try dsimp only at k_62
     refine d1 6 rfl (by kernel_rfl) (call F Try.func82 (sector_Put_ok (a0 := (⟨a3, x50, x23, (a5.length : Int), (a5.getD (x49 : Int).toNat [])⟩ : api_Sector)) (H.p0) e66) rfl rfl fun v w hR a F => ?_)
     obtain ⟨A67, c68, rfl, H⟩ := hR
     have HS := H.fx5
     refine kg _ HS (fun w S => S.px0) ?_
     obtain ⟨⟨x69, x70⟩, e71, k_62⟩ := Option.bind_eq_some_iff.1 k_62
     try dsimp only at k_62
     refine d1 7 rfl (by kernel_rfl) (call F Try.func26 (disk_Disk_Write_ok (H.p0.f7.f7.f6.f6.f6.f6.f6.f7) e71) rfl rfl fun v w hR a F => ?_)
     obtain ⟨rfl, H⟩ := hR
     have HS := H.fx0
     refine kg _ HS (fun w S => S) ?_
     refine dk 8 F rfl NP HS (fun w S => (r_as (F.t 26 rfl))) fun a F => ?_
     refine ddone (by kernel_rfl) ?_
     replace F := F.only [8] (l' := [(8, _)]) rfl
     refine wp_ret ?_
     try dsimp only at k_62
     obtain rfl := Option.some.inj k_62
     exact RET _ _ (ret1 F rfl rfl ⟨_, rfl, _, _, rfl, rfl, H.px3.px2.px0.f7.f1.f6.f7.f7.f7.f6.fx7⟩)
    rintro v w ⟨x61, x62, rfl, rfl, H⟩ a F
    try dsimp only at j_52 F H
    refine as_ F rfl fun a F => ?_
    refine rgend ?_
    replace F := F.only [22, 17, 78, 79, 80] (l' := [(22, _), (17, _), (78, _), (79, _), (80, _)]) rfl
    refine rg ?_
    refine mv F rfl fun a F => ?_
    refine qw F (r_ne (F.t 87 rfl) (F.k (.int .i64 0))) fun a F => ?_
    refine rgend ?_
    by_cases c72 : x61 ≠ 0
    ·rw [if_pos c72] at j_52
     rw [decide_eq_true c72] at F
     refine wp_cond_true (F.ev rfl) ?_
     refine rg ?_
     refine mv F rfl fun a F => ?_
     refine as_ F rfl fun a F => ?_
     refine rgend ?_
     replace F := F.only [12] (l' := [(12, _)]) rfl
     refine wp_ret ?_
     try dsimp only at j_52
     obtain rfl := Option.some.inj j_52
     obtain rfl := u_52 _ rfl
     try dsimp only at h
     obtain ⟨rfl, rfl⟩ := Prod.mk.inj (Option.some.inj h)
     exact RET _ _ (ret1 F rfl rfl ⟨_, rfl, rfl, H.px1.px0.fx6.fx4.fx3.fx2.fx1.fx0⟩)
    rw [if_neg c72] at j_52
    rw [decide_eq_false c72] at F
    refine wp_cond_false (F.ev rfl) ?_
    refine wp_skip ?_
    refine wp_region_lit ?_
    refine qw F (r_add (F.t 80 rfl) (F.k (.int .i64 1))) fun a F => ?_
    refine mv F rfl fun a F => ?_
    refine wpList_nil ?_
    replace F := F.only [80, 17, 78, 79] (l' := [(80, _), (17, _), (78, _), (79, _)]) rfl
    try dsimp only at j_52
    obtain rfl := Option.some.inj j_52
    exact ⟨_, rfl, F.only [17, 78, 79, 80] rfl, H.px0.f6.f4.f6.f6.f6.f6.f6⟩
   rw [if_neg c54] at j_52
   rw [decide_eq_false c54] at F
   refine wp_cond_false (F.ev rfl) ?_
   refine wp_exit ?_
   try dsimp only at j_52
   obtain rfl := Option.some.inj j_52
   obtain rfl := u_52 _ rfl
   repeat (with_reducible refine exT ?_)
   with_reducible refine exB ?_
   exact ⟨_, rfl, F.only [] rfl, H.px0.fx6.fx5.fx3.fx2.fx1.fx0⟩
  rintro a w ⟨x52, rfl, F, H⟩
  try dsimp only at h F H
  refine rg ?_
  refine as_ F (v := .int .i64 0) rfl fun a F => ?_
  refine rgend ?_
  refine wp_ret ?_
  try dsimp only at h
  obtain ⟨rfl, rfl⟩ := Prod.mk.inj (Option.some.inj h)
  exact RET _ _ (ret1 F rfl rfl ⟨_, rfl, rfl, H⟩)
 rw [if_neg c9] at h
 rw [Bool.eq_false_iff.2 c9] at F
 iterate 3 refine of_ F fun a F => ?_
 refine qw F (r_pickT (F.t 34 rfl) (F.k (.bool true))) fun a F => ?_
 refine rgend ?_
 replace F := F.only [38, 11, 9, 7, 6, 2, 4] (l' := [(38, _), (11, _), (9, _), (7, _), (6, _), (2, _), (4, _)]) rfl
 refine wp_cond_true (F.ev rfl) ?_
 refine rg ?_
 refine as_ F (v := .int .i64 1) rfl fun a F => ?_
 refine rgend ?_
 replace F := F.only [12] (l' := [(12, _)]) rfl
 refine wp_ret ?_
 try dsimp only at h
 obtain ⟨rfl, rfl⟩ := Prod.mk.inj (Option.some.inj h)
 exact RET _ _ (ret1 F rfl rfl ⟨_, rfl, rfl, H.px1.px0.fx3.fx2.fx1.fx0⟩)
def region_Put_f (a0 : disk_Disk) (a1 : Int) (a2 : Int) (a3 : api_Region) (a4 : List Int) : Option (Int × disk_Disk) :=
 ((region_entry_f a4).bind fun x2 => (if x2 = true then (if a3.Gen < 1 then some (1, a0) else (if a3.Gen > 281474976710656 then some (1, a0) else ((region_state_f a3.State).bind fun x7 => (if x7 = true then (if (a3.Kept.length : Int) > 1000 then some (1, a0) else ((region_parts_f a3.State).bind fun x11 => (if (IntKind.i64.wrap ((IntKind.i64.wrap (x11 + (a3.Kept.length : Int))) + (a3.More.length : Int))) ≥ a2 then some (5, a0) else ((sector_Put_f ((⟨a3.Gen, IntKind.i64.wrap ((IntKind.i64.wrap (x11 + (a3.Kept.length : Int))) + (a3.More.length : Int)), x11, (a3.Kept.length : Int), a4⟩ : api_Sector))).bind fun x14 => ((disk_Disk_Write_f a0 (IntKind.i64.wrap (a1 + (IntKind.i64.wrap ((IntKind.i64.wrap (x11 + (a3.Kept.length : Int))) + (a3.More.length : Int))))) x14).bind fun (x18, x19) => some (x18, x19)))))) else some (1, a0))))) else some (1, a0)))
theorem region_Put_ok {w0 w : World} {ps : List PF} {fs : List SF} {a0 : disk_Disk} {g0_ : Nat} {a1 : Int} {a2 : Int} {a3 : api_Region} {A3_1 : Option Addr} {c3_1 : Nat} {A3_2 : Option Addr} {c3_2 : Nat} {A3_3 : Option Addr} {c3_3 : Nat} {a4 : List Int} {A4_ : Option Addr} {c4_ : Nat} {r0 : Int} {s0 : disk_Disk} (H : Hp w0 (rd kByte A4_ c4_ a4 :: ps) (obj_disk_Disk g0_ a0 :: fs) w) (h : region_Put_f a0 a1 a2 a3 a4 = some (r0, s0)) :
  Calls Try.prog 47 [pt g0_, .int .i64 a1, .int .i64 a2, .agg #[.int .i64 a3.Gen, .slice A3_1 a3.State.length c3_1, .slice A3_2 a3.Kept.length c3_2, .slice A3_3 a3.More.length c3_3], .slice A4_ a4.length c4_].toArray w fun e w' => ∃ v, e = .returned v ∧ v = .int .i64 r0 ∧ Hp w0 ps (obj_disk_Disk g0_ s0 :: fs) w' := by
 refine enter [pt g0_, .int .i64 a1, .int .i64 a2, .agg #[.int .i64 a3.Gen, .slice A3_1 a3.State.length c3_1, .slice A3_2 a3.Kept.length c3_2, .slice A3_3 a3.More.length c3_3], .slice A4_ a4.length c4_] 68 Try.func47 fun Q a NP RET NRM F => ?_
 replace NP := np NP
 unfold region_Put_f at h
 refine rg ?_
 refine ls (lbox F H rfl (cs := [.int .i64 a3.Gen, .slice A3_1 a3.State.length c3_1, .slice A3_2 a3.Kept.length c3_2, .slice A3_3 a3.More.length c3_3]) rfl fun g1 w a H F => ?_)
 refine as_ F (v := .int .i64 0) rfl fun a F => ?_
 refine rgend ?_
 refine wp_seq ?_
 refine rg ?_
 refine mv F rfl fun a F => ?_
 obtain ⟨x2, e3, h⟩ := Option.bind_eq_some_iff.1 h
 try dsimp only at h
 refine ls (call F Try.func79 (region_entry_ok (a0 := a4) (H) e3) rfl rfl fun v w hR a F => ?_)
 obtain ⟨rfl, H⟩ := hR
 refine qw F (r_not (F.t 14 rfl)) fun a F => ?_
 refine mv F rfl fun a F => ?_
 by_cases c4 : x2 = true
 ·rw [if_pos c4] at h
  rw [c4] at F
  refine qw F (r_fa (off := 0) (F.t 8 rfl) fa32_0) fun a F => ?_
  refine qw F (r_ld (F.t 17 rfl) (cel_cell (o := 0) (H.cell 0 rfl) rfl) one2) fun a F => ?_
  refine qw F (r_lt (F.t 18 rfl) (F.k (.int .i64 1))) fun a F => ?_
  refine qw F (r_pickF (F.t 16 rfl) (F.t 19 rfl)) fun a F => ?_
  refine mv F rfl fun a F => ?_
  by_cases c5 : a3.Gen < 1
  ·rw [if_pos c5] at h
   rw [decide_eq_true c5] at F
   iterate 3 refine of_ F fun a F => ?_
   refine qw F (r_pickT (F.t 21 rfl) (F.k (.bool true))) fun a F => ?_
   refine mv F rfl fun a F => ?_
   iterate 4 refine of_ F fun a F => ?_
   refine qw F (r_pickT (F.t 26 rfl) (F.k (.bool true))) fun a F => ?_
   refine mv F rfl fun a F => ?_
   iterate 4 refine of_ F fun a F => ?_
   refine qw F (r_pickT (F.t 32 rfl) (F.k (.bool true))) fun a F => ?_
   refine rgend ?_
   replace F := F.only [37, 8, 0, 1, 2, 4] (l' := [(37, _), (8, _), (0, _), (1, _), (2, _), (4, _)]) rfl
   refine wp_cond_true (F.ev rfl) ?_
   refine rg ?_
   refine as_ F (v := .int .i64 1) rfl fun a F => ?_
   refine rgend ?_
   replace F := F.only [10] (l' := [(10, _)]) rfl
   refine wp_ret ?_
   try dsimp only at h
   obtain ⟨rfl, rfl⟩ := Prod.mk.inj (Option.some.inj h)
   exact RET _ _ (ret1 F rfl rfl ⟨_, rfl, rfl, H.px0.fx0⟩)
  rw [if_neg c5] at h
  rw [decide_eq_false c5] at F
  refine qw F (r_fa (off := 0) (F.t 8 rfl) fa32_0) fun a F => ?_
  refine qw F (r_ld (F.t 22 rfl) (cel_cell (o := 0) (H.cell 0 rfl) rfl) one2) fun a F => ?_
  refine qw F (r_gt (F.t 23 rfl) (F.k (.int .i64 281474976710656))) fun a F => ?_
  refine qw F (r_pickF (F.t 21 rfl) (F.t 24 rfl)) fun a F => ?_
  refine mv F rfl fun a F => ?_
  by_cases c6 : a3.Gen > 281474976710656
  ·rw [if_pos c6] at h
   rw [decide_eq_true c6] at F
   iterate 4 refine of_ F fun a F => ?_
   refine qw F (r_pickT (F.t 26 rfl) (F.k (.bool true))) fun a F => ?_
   refine mv F rfl fun a F => ?_
   iterate 4 refine of_ F fun a F => ?_
   refine qw F (r_pickT (F.t 32 rfl) (F.k (.bool true))) fun a F => ?_
   refine rgend ?_
   replace F := F.only [37, 8, 0, 1, 2, 4] (l' := [(37, _), (8, _), (0, _), (1, _), (2, _), (4, _)]) rfl
   refine wp_cond_true (F.ev rfl) ?_
   refine rg ?_
   refine as_ F (v := .int .i64 1) rfl fun a F => ?_
   refine rgend ?_
   replace F := F.only [10] (l' := [(10, _)]) rfl
   refine wp_ret ?_
   try dsimp only at h
   obtain ⟨rfl, rfl⟩ := Prod.mk.inj (Option.some.inj h)
   exact RET _ _ (ret1 F rfl rfl ⟨_, rfl, rfl, H.px0.fx0⟩)
  rw [if_neg c6] at h
  rw [decide_eq_false c6] at F
  refine qw F (r_fa (off := 1) (F.t 8 rfl) fa32_1) fun a F => ?_
  refine qw F (r_ld (F.t 27 rfl) (cel_cell (o := 1) (H.cell 0 rfl) rfl) one29) fun a F => ?_
  obtain ⟨x7, e8, h⟩ := Option.bind_eq_some_iff.1 h
  try dsimp only at h
  refine ls (call F Try.func78 (region_state_ok (a0 := a3.State) (H) e8) rfl rfl fun v w hR a F => ?_)
  obtain ⟨rfl, H⟩ := hR
  refine qw F (r_not (F.t 29 rfl)) fun a F => ?_
  refine qw F (r_pickF (F.t 26 rfl) (F.t 30 rfl)) fun a F => ?_
  refine mv F rfl fun a F => ?_
  by_cases c9 : x7 = true
  ·rw [if_pos c9] at h
   rw [c9] at F
   refine qw F (r_fa (off := 2) (F.t 8 rfl) fa32_2) fun a F => ?_
   refine qw F (r_ld (F.t 33 rfl) (cel_cell (o := 2) (H.cell 0 rfl) rfl) one30) fun a F => ?_
   refine qw F (r_len (F.t 34 rfl) Try.underlying30) fun a F => ?_
   refine qw F (r_gt (F.t 35 rfl) (F.k (.int .i64 1000))) fun a F => ?_
   refine qw F (r_pickF (F.t 32 rfl) (F.t 36 rfl)) fun a F => ?_
   refine rgend ?_
   replace F := F.only [37, 8, 0, 1, 2, 4] (l' := [(37, _), (8, _), (0, _), (1, _), (2, _), (4, _)]) rfl
   by_cases c10 : (a3.Kept.length : Int) > 1000
   ·rw [if_pos c10] at h
    rw [decide_eq_true c10] at F
    refine wp_cond_true (F.ev rfl) ?_
    refine rg ?_
    refine as_ F (v := .int .i64 1) rfl fun a F => ?_
    refine rgend ?_
    replace F := F.only [10] (l' := [(10, _)]) rfl
    refine wp_ret ?_
    try dsimp only at h
    obtain ⟨rfl, rfl⟩ := Prod.mk.inj (Option.some.inj h)
    exact RET _ _ (ret1 F rfl rfl ⟨_, rfl, rfl, H.px0.fx0⟩)
   rw [if_neg c10] at h
   rw [decide_eq_false c10] at F
   refine wp_cond_false (F.ev rfl) ?_
   refine wp_skip ?_
   refine rg ?_
   refine qw F (r_fa (off := 1) (F.t 8 rfl) fa32_1) fun a F => ?_
   refine qw F (r_ld (F.t 38 rfl) (cel_cell (o := 1) (H.cell 0 rfl) rfl) one29) fun a F => ?_
   obtain ⟨x11, e12, h⟩ := Option.bind_eq_some_iff.1 h
   try dsimp only at h
   refine ls (call F Try.func80 (region_parts_ok (a0 := a3.State) (H) e12) rfl rfl fun v w hR a F => ?_)
   obtain ⟨rfl, H⟩ := hR
   refine as_ F rfl fun a F => ?_
   refine rgend ?_
   replace F := F.only [11, 8, 0, 1, 2, 4] (l' := [(11, _), (8, _), (0, _), (1, _), (2, _), (4, _)]) rfl
   refine rg ?_
   refine mv F rfl fun a F => ?_
   refine qw F (r_fa (off := 2) (F.t 8 rfl) fa32_2) fun a F => ?_
   refine qw F (r_ld (F.t 42 rfl) (cel_cell (o := 2) (H.cell 0 rfl) rfl) one30) fun a F => ?_
   refine qw F (r_len (F.t 43 rfl) Try.underlying30) fun a F => ?_
   refine qw F (r_add (F.t 41 rfl) (F.t 44 rfl)) fun a F => ?_
   refine qw F (r_fa (off := 3) (F.t 8 rfl) fa32_3) fun a F => ?_
   refine qw F (r_ld (F.t 46 rfl) (cel_cell (o := 3) (H.cell 0 rfl) rfl) one30) fun a F => ?_
   refine qw F (r_len (F.t 47 rfl) Try.underlying30) fun a F => ?_
   refine qw F (r_add (F.t 45 rfl) (F.t 48 rfl)) fun a F => ?_
   refine as_ F rfl fun a F => ?_
   refine rgend ?_
   replace F := F.only [12, 11, 8, 0, 1, 2, 4] (l' := [(12, _), (11, _), (8, _), (0, _), (1, _), (2, _), (4, _)]) rfl
   refine wp_seq ?_
   refine rg ?_
   iterate 2 refine mv F rfl fun a F => ?_
   refine qw F (r_ge (F.t 50 rfl) (F.t 51 rfl)) fun a F => ?_
   refine rgend ?_
   by_cases c13 : (IntKind.i64.wrap ((IntKind.i64.wrap (x11 + (a3.Kept.length : Int))) + (a3.More.length : Int))) ≥ a2
   ·rw [if_pos c13] at h
    rw [decide_eq_true c13] at F
    refine wp_cond_true (F.ev rfl) ?_
    refine rg ?_
    refine as_ F (v := .int .i64 5) rfl fun a F => ?_
    refine rgend ?_
    replace F := F.only [10] (l' := [(10, _)]) rfl
    refine wp_ret ?_
    try dsimp only at h
    obtain ⟨rfl, rfl⟩ := Prod.mk.inj (Option.some.inj h)
    exact RET _ _ (ret1 F rfl rfl ⟨_, rfl, rfl, H.px0.fx0⟩)
   rw [if_neg c13] at h
   rw [decide_eq_false c13] at F
   refine wp_cond_false (F.ev rfl) ?_
   refine wp_skip ?_
   refine rg ?_
   iterate 3 refine mv F rfl fun a F => ?_
   refine qw F (r_add (F.t 54 rfl) (F.t 55 rfl)) fun a F => ?_
   refine qw F (r_fa (off := 0) (F.t 8 rfl) fa32_0) fun a F => ?_
   refine qw F (r_ld (F.t 57 rfl) (cel_cell (o := 0) (H.cell 0 rfl) rfl) one2) fun a F => ?_
   iterate 2 refine mv F rfl fun a F => ?_
   refine qw F (r_fa (off := 2) (F.t 8 rfl) fa32_2) fun a F => ?_
   refine qw F (r_ld (F.t 61 rfl) (cel_cell (o := 2) (H.cell 0 rfl) rfl) one30) fun a F => ?_
   refine qw F (r_len (F.t 62 rfl) Try.underlying30) fun a F => ?_
   refine mv F rfl fun a F => ?_
   refine ls (lbd F (vs := [(0, .int .i64 a3.Gen), (1, .int .i64 (IntKind.i64.wrap ((IntKind.i64.wrap (x11 + (a3.Kept.length : Int))) + (a3.More.length : Int)))), (2, .int .i64 x11), (3, .int .i64 (a3.Kept.length : Int)), (4, .slice A4_ a4.length c4_)]) (cs := [.int .i64 a3.Gen, .int .i64 (IntKind.i64.wrap ((IntKind.i64.wrap (x11 + (a3.Kept.length : Int))) + (a3.More.length : Int))), .int .i64 x11, .int .i64 (a3.Kept.length : Int), .slice A4_ a4.length c4_]) rfl (fun w => by kernel_rfl) fun a F => ?_)
   obtain ⟨x14, e15, h⟩ := Option.bind_eq_some_iff.1 h
   try dsimp only at h
   refine ls (call F Try.func82 (sector_Put_ok (a0 := (⟨a3.Gen, IntKind.i64.wrap ((IntKind.i64.wrap (x11 + (a3.Kept.length : Int))) + (a3.More.length : Int)), x11, (a3.Kept.length : Int), a4⟩ : api_Sector)) (H.p0) e15) rfl rfl fun v w hR a F => ?_)
   obtain ⟨A16, c17, rfl, H⟩ := hR
   obtain ⟨⟨x18, x19⟩, e20, h⟩ := Option.bind_eq_some_iff.1 h
   try dsimp only at h
   refine ls (call F Try.func26 (disk_Disk_Write_ok (H.p0.f1) e20) rfl rfl fun v w hR a F => ?_)
   obtain ⟨rfl, H⟩ := hR
   refine as_ F rfl fun a F => ?_
   refine rgend ?_
   replace F := F.only [10] (l' := [(10, _)]) rfl
   refine wp_ret ?_
   try dsimp only at h
   obtain ⟨rfl, rfl⟩ := Prod.mk.inj (Option.some.inj h)
   exact RET _ _ (ret1 F rfl rfl ⟨_, rfl, rfl, H.px1.px0.fx1⟩)
  rw [if_neg c9] at h
  rw [Bool.eq_false_iff.2 c9] at F
  iterate 4 refine of_ F fun a F => ?_
  refine qw F (r_pickT (F.t 32 rfl) (F.k (.bool true))) fun a F => ?_
  refine rgend ?_
  replace F := F.only [37, 8, 0, 1, 2, 4] (l' := [(37, _), (8, _), (0, _), (1, _), (2, _), (4, _)]) rfl
  refine wp_cond_true (F.ev rfl) ?_
  refine rg ?_
  refine as_ F (v := .int .i64 1) rfl fun a F => ?_
  refine rgend ?_
  replace F := F.only [10] (l' := [(10, _)]) rfl
  refine wp_ret ?_
  try dsimp only at h
  obtain ⟨rfl, rfl⟩ := Prod.mk.inj (Option.some.inj h)
  exact RET _ _ (ret1 F rfl rfl ⟨_, rfl, rfl, H.px0.fx0⟩)
 rw [if_neg c4] at h
 rw [Bool.eq_false_iff.2 c4] at F
 iterate 3 refine of_ F fun a F => ?_
 refine qw F (r_pickT (F.t 16 rfl) (F.k (.bool true))) fun a F => ?_
 refine mv F rfl fun a F => ?_
 iterate 3 refine of_ F fun a F => ?_
 refine qw F (r_pickT (F.t 21 rfl) (F.k (.bool true))) fun a F => ?_
 refine mv F rfl fun a F => ?_
 iterate 4 refine of_ F fun a F => ?_
 refine qw F (r_pickT (F.t 26 rfl) (F.k (.bool true))) fun a F => ?_
 refine mv F rfl fun a F => ?_
 iterate 4 refine of_ F fun a F => ?_
 refine qw F (r_pickT (F.t 32 rfl) (F.k (.bool true))) fun a F => ?_
 refine rgend ?_
 replace F := F.only [37, 8, 0, 1, 2, 4] (l' := [(37, _), (8, _), (0, _), (1, _), (2, _), (4, _)]) rfl
 refine wp_cond_true (F.ev rfl) ?_
 refine rg ?_
 refine as_ F (v := .int .i64 1) rfl fun a F => ?_
 refine rgend ?_
 replace F := F.only [10] (l' := [(10, _)]) rfl
 refine wp_ret ?_
 try dsimp only at h
 obtain ⟨rfl, rfl⟩ := Prod.mk.inj (Option.some.inj h)
 exact RET _ _ (ret1 F rfl rfl ⟨_, rfl, rfl, H.px0.fx0⟩)
def ref17_SameRows_b0 (a0 : List (List Int)) (a1 : List (List Int)) : Int → Option (Int ⊕ (Unit ⊕ Bool))
 | x2 => (if x2 < (a0.length : Int) then (if 0 ≤ x2 ∧ x2 < (a0.length : Int) then (if 0 ≤ x2 ∧ x2 < (a1.length : Int) then (if (a0.getD (x2 : Int).toNat []) ≠ (a1.getD (x2 : Int).toNat []) then some (.inr (.inr false)) else some (.inl (IntKind.i64.wrap (x2 + 1)))) else none) else none) else some (.inr (.inl ())))
def ref17_SameRows_f (a0 : List (List Int)) (a1 : List (List Int)) : Option (Bool) :=
 (if (a0.length : Int) ≠ (a1.length : Int) then some false else ((lp (ref17_SameRows_b0 a0 a1) 0).bind fun q => match q with | .inl _ => some true | .inr r => some r))
theorem ref17_SameRows_ok {w0 w : World} {ps : List PF} {fs : List SF} {a0 : List (List Int)} {A0_ : Option Addr} {c0_ : Nat} {a1 : List (List Int)} {A1_ : Option Addr} {c1_ : Nat} {r0 : Bool} (H : Hp w0 (rd (kSlice kByte) A0_ c0_ a0 :: rd (kSlice kByte) A1_ c1_ a1 :: ps) fs w) (h : ref17_SameRows_f a0 a1 = some r0) :
  Calls Try.prog 19 [.slice A0_ a0.length c0_, .slice A1_ a1.length c1_].toArray w fun e w' => ∃ v, e = .returned v ∧ v = .bool r0 ∧ Hp w0 ps fs w' := by
 refine enter [.slice A0_ a0.length c0_, .slice A1_ a1.length c1_] 28 Try.func19 fun Q a NP RET NRM F => ?_
 replace NP := np NP
 unfold ref17_SameRows_f at h
 refine rg ?_
 refine as_ F (v := .bool false) rfl fun a F => ?_
 refine rgend ?_
 refine wp_seq ?_
 refine rg ?_
 refine mv F rfl fun a F => ?_
 refine qw F (r_len (F.t 6 rfl) Try.underlying30) fun a F => ?_
 refine mv F rfl fun a F => ?_
 refine qw F (r_len (F.t 8 rfl) Try.underlying30) fun a F => ?_
 refine qw F (r_ne (F.t 7 rfl) (F.t 9 rfl)) fun a F => ?_
 refine rgend ?_
 replace F := F.only [10, 0, 1] (l' := [(10, _), (0, _), (1, _)]) rfl
 by_cases c1 : (a0.length : Int) ≠ (a1.length : Int)
 ·rw [if_pos c1] at h
  rw [decide_eq_true c1] at F
  refine wp_cond_true (F.ev rfl) ?_
  refine rg ?_
  refine as_ F (v := .bool false) rfl fun a F => ?_
  refine rgend ?_
  refine wp_ret ?_
  try dsimp only at h
  obtain rfl := Option.some.inj h
  exact RET _ _ (ret1 F rfl rfl ⟨_, rfl, rfl, H.px1.px0⟩)
 rw [if_neg c1] at h
 rw [decide_eq_false c1] at F
 refine wp_cond_false (F.ev rfl) ?_
 refine wp_skip ?_
 refine wp_seq ?_
 refine rg ?_
 refine as_ F (v := .int .i64 0) rfl fun a F => ?_
 refine rgend ?_
 obtain ⟨o_2, k_2, h⟩ := Option.bind_eq_some_iff.1 h
 refine cut (fun a w => Sum.inl () = o_2 ∧ Fr 28 [] [] a ∧ Hp w0 ps fs w) (wp_block ?_) ?_
 ·refine wloop (ref17_SameRows_b0 a0 a1) (fun (s : Int) a w => Fr 28 [] [(0, .slice A0_ a0.length c0_), (1, .slice A1_ a1.length c1_), (5, .int .i64 s)] a ∧ Hp w0 (rd (kSlice kByte) A0_ c0_ a0 :: rd (kSlice kByte) A1_ c1_ a1 :: ps) fs w) k_2 ⟨F.only [0, 1, 5] rfl, H⟩ ?_
  rintro x2 a w q_2 j_2 u_2 ⟨F, H⟩
  unfold ref17_SameRows_b0 at j_2
  try dsimp only at j_2 F H
  refine wp_seq ?_
  refine rg ?_
  iterate 2 refine mv F rfl fun a F => ?_
  refine qw F (r_len (F.t 12 rfl) Try.underlying30) fun a F => ?_
  refine qw F (r_lt (F.t 11 rfl) (F.t 13 rfl)) fun a F => ?_
  refine rgend ?_
  by_cases c4 : x2 < (a0.length : Int)
  ·rw [if_pos c4] at j_2
   rw [decide_eq_true c4] at F
   refine wp_cond_true (F.ev rfl) ?_
   refine wp_skip ?_
   refine wp_seq ?_
   refine wp_block ?_
   refine wp_seq ?_
   replace H := H.drew
   have HS := H
   refine dr (fun w => Hp w0 (rd (kSlice kByte) A0_ c0_ a0 :: rd (kSlice kByte) A1_ c1_ a1 :: ps) fs w) _ (by kernel_rfl) ?_ (n := 11)
   refine dk 0 F rfl NP HS (fun w S => (r_mv (F.t 0 rfl))) fun a F => ?_
   refine dk 1 F rfl NP HS (fun w S => (r_mv (F.t 5 rfl))) fun a F => ?_
   obtain ⟨c5, j_2⟩ := guardO j_2
   obtain ⟨g6, o7, s8, hr, H⟩ := H.ix [] 0 rfl (F.t 17 rfl) (F.t 18 rfl) Try.underlying30 sz29 (by decide) c5.1 c5.2
   obtain ⟨A9, c10, rfl, H⟩ := H.says_slice 1 rfl
   have HS := H
   refine dmoreH HS (fun w S => S.px2.px1.px0) ?_
   refine dk 2 F rfl NP HS (fun w S => (hr _ _ _ _ _ _)) fun a F => ?_
   refine dk 3 F rfl NP HS (fun w S => (r_ld (F.t 19 rfl) (range_cell (j := 0) (S.range 1 rfl) rfl) one29)) fun a F => ?_
   have hb11 := H.bytes 0 rfl
   refine dk 4 F rfl NP HS (fun w S => (S.str 0 rfl (F.t 20 rfl) Try.underlying29 Try.underlying5 Try.underlying9)) fun a F => ?_
   refine dk 5 F rfl NP HS (fun w S => (r_mv (F.t 1 rfl))) fun a F => ?_
   refine dk 6 F rfl NP HS (fun w S => (r_mv (F.t 5 rfl))) fun a F => ?_
   obtain ⟨c12, j_2⟩ := guardO j_2
   obtain ⟨g13, o14, s15, hr, H⟩ := H.ix [] 4 rfl (F.t 22 rfl) (F.t 23 rfl) Try.underlying30 sz29 (by decide) c12.1 c12.2
   obtain ⟨A16, c17, rfl, H⟩ := H.says_slice 1 rfl
   have HS := H
   refine dmoreH HS (fun w S => S.px2.px1.px0) ?_
   refine dk 7 F rfl NP HS (fun w S => (hr _ _ _ _ _ _)) fun a F => ?_
   refine dk 8 F rfl NP HS (fun w S => (r_ld (F.t 24 rfl) (range_cell (j := 0) (S.range 1 rfl) rfl) one29)) fun a F => ?_
   have hb18 := H.bytes 0 rfl
   refine dk 9 F rfl NP HS (fun w S => (S.str 0 rfl (F.t 25 rfl) Try.underlying29 Try.underlying5 Try.underlying9)) fun a F => ?_
   refine dk 10 F rfl NP HS (fun w S => (r_sne (F.t 21 rfl) (F.t 26 rfl) hb11 hb18)) fun a F => ?_
   refine ddone (by kernel_rfl) ?_
   replace F := F.only [27, 0, 1, 5] (l' := [(27, _), (0, _), (1, _), (5, _)]) rfl
   by_cases c19 : (a0.getD (x2 : Int).toNat []) ≠ (a1.getD (x2 : Int).toNat [])
   ·rw [if_pos c19] at j_2
    rw [decide_eq_true c19] at F
    refine wp_cond_true (F.ev rfl) ?_
    refine rg ?_
    refine as_ F (v := .bool false) rfl fun a F => ?_
    refine rgend ?_
    replace F := F.only [4] (l' := [(4, _)]) rfl
    refine wp_ret ?_
    try dsimp only at j_2
    obtain rfl := Option.some.inj j_2
    obtain rfl := u_2 _ rfl
    try dsimp only at h
    obtain rfl := Option.some.inj h
    exact RET _ _ (ret1 F rfl rfl ⟨_, rfl, rfl, H.px7.px6.px5.px4.px3.px2.px1.px0⟩)
   rw [if_neg c19] at j_2
   rw [decide_eq_false c19] at F
   refine wp_cond_false (F.ev rfl) ?_
   refine wp_skip ?_
   refine wp_region_lit ?_
   refine mv F rfl fun a F => ?_
   refine qw F (r_add (F.t 15 rfl) (F.k (.int .i64 1))) fun a F => ?_
   refine as_ F rfl fun a F => ?_
   refine wpList_nil ?_
   replace F := F.only [5, 0, 1] (l' := [(5, _), (0, _), (1, _)]) rfl
   try dsimp only at j_2
   obtain rfl := Option.some.inj j_2
   exact ⟨_, rfl, F.only [0, 1, 5] rfl, H.px5.px4.px3.px2.px1.px0⟩
  rw [if_neg c4] at j_2
  rw [decide_eq_false c4] at F
  refine wp_cond_false (F.ev rfl) ?_
  refine wp_exit ?_
  try dsimp only at j_2
  obtain rfl := Option.some.inj j_2
  obtain rfl := u_2 _ rfl
  repeat (with_reducible refine exT ?_)
  with_reducible refine exB ?_
  exact ⟨rfl, F.only [] rfl, H.px1.px0⟩
 rintro a w ⟨rfl, F, H⟩
 try dsimp only at h F H
 refine rg ?_
 refine as_ F (v := .bool true) rfl fun a F => ?_
 refine rgend ?_
 refine wp_ret ?_
 try dsimp only at h
 obtain rfl := Option.some.inj h
 exact RET _ _ (ret1 F rfl rfl ⟨_, rfl, rfl, H⟩)
def store_Open_b0 (a0 : disk_Disk) (x2 : Int) : (Int × store_Store) → Option (Int × store_Store ⊕ store_Store)
 | (x7, x8) => (if x7 < 2 then (if 0 ≤ x7 ∧ x7 < (([0, x2]).length : Int) then ((((disk_Disk_Sectors_f a0).bind fun x24 => some ((IntKind.i64.wrap (x24.tdiv 2)))) : Option (Int)).bind fun x16 => ((region_Read_f a0 ((([0, x2]).getD (x7 : Int).toNat 0)) x16).bind fun (x26, x27) => (((if x27 = true then (if x8.has_ = true then some ((decide (x26.Gen > x8.now.Gen))) else some true) else some false) : Option (Bool)).bind fun x36 => (((if x36 = true then some (((⟨x26, true, (([0, x2]).getD (x7 : Int).toNat 0), x8.begun, x8.broken⟩ : store_Store))) else some x8) : Option (store_Store)).bind fun x46 => some (.inl (IntKind.i64.wrap (x7 + 1), x46)))))) else none) else some (.inr x8))
def store_Open_f (a0 : disk_Disk) : Option (store_Store) :=
 ((((disk_Disk_Sectors_f a0).bind fun x4 => some ((IntKind.i64.wrap (x4.tdiv 2)))) : Option (Int)).bind fun x2 => ((lp (store_Open_b0 a0 x2) (0, (⟨⟨0, [], [], []⟩, false, 0, false, false⟩ : store_Store))).bind fun x9 => some x9))
theorem store_Open_ok {w0 w : World} {ps : List PF} {fs : List SF} {a0 : disk_Disk} {g0_ : Nat} {r0 : store_Store} (H : Hp w0 ps (obj_disk_Disk g0_ a0 :: fs) w) (h : store_Open_f a0 = some r0) :
  Calls Try.prog 13 [pt g0_].toArray w fun e w' => ∃ v, e = .returned v ∧ ∃ (g0 : Nat), v = .pointer (some ⟨g0, 0, none⟩) ∧ Hp w0 ps (obj_store_Store g0 g0_ r0 :: obj_disk_Disk g0_ a0 :: fs) w' := by
 refine enter [pt g0_] 58 Try.func13 fun Q a NP RET NRM F => ?_
 replace NP := np NP
 unfold store_Open_f at h
 refine rg ?_
 refine as_ F (v := .pointer none) rfl fun a F => ?_
 refine rgend ?_
 refine rg ?_
 refine mv F rfl fun a F => ?_
 refine ls (lbd F (vs := [(0, pt g0_)]) (cs := [pt g0_, .int .i64 0, .slice none 0 0, .slice none 0 0, .slice none 0 0, .bool false, .int .i64 0, .bool false, .bool false]) rfl (fun w => by kernel_rfl) fun a F => ?_)
 refine ls (lbox F H rfl (cs := [pt g0_, .int .i64 0, .slice none 0 0, .slice none 0 0, .slice none 0 0, .bool false, .int .i64 0, .bool false, .bool false]) rfl fun g1 w a H F => ?_)
 refine as_ F rfl fun a F => ?_
 refine rgend ?_
 replace F := F.only [3, 0] (l' := [(3, _), (0, _)]) rfl
 refine wp_seq ?_
 refine rg ?_
 refine mv F rfl fun a F => ?_
 obtain ⟨o_2, k_2, h⟩ := Option.bind_eq_some_iff.1 h
 refine ls (call F Try.func36 (R := fun v w => ∃ (x2 : Int), x2 = o_2 ∧ v = .int .i64 x2 ∧ Hp w0 ps (obj_disk_Disk g0_ a0 :: obj_store_Store g1 g0_ (⟨⟨0, [], [], []⟩, false, 0, false, false⟩ : store_Store) :: fs) w) (args := [pt g1]) (cap := []) ?_ rfl rfl ?_)
 ·refine enter [pt g1] 9 Try.func36 fun Q a NP RET NRM F => ?_
  replace NP := np NP
  refine rg ?_
  refine as_ F (v := .int .i64 0) rfl fun a F => ?_
  refine rgend ?_
  refine rg ?_
  refine mv F rfl fun a F => ?_
  refine qw F (r_nc (F.t 3 rfl)) fun a F => ?_
  refine qw F (r_fa (off := 0) (F.t 4 rfl) fa73_0) fun a F => ?_
  refine qw F (r_ld (F.t 5 rfl) (cel_cell (o := 0) (H.cell 0 rfl) rfl) one24) fun a F => ?_
  obtain ⟨x4, e5, k_2⟩ := Option.bind_eq_some_iff.1 k_2
  try dsimp only at k_2
  refine ls (call F Try.func76 (disk_Disk_Sectors_ok (H.f1) e5) rfl rfl fun v w hR a F => ?_)
  obtain ⟨rfl, H⟩ := hR
  refine qw F (r_quo (F.t 7 rfl) (F.k (.int .i64 2)) (by decide)) fun a F => ?_
  refine as_ F rfl fun a F => ?_
  refine rgend ?_
  replace F := F.only [2] (l' := [(2, _)]) rfl
  refine wp_ret ?_
  replace H := H.nilRd kByte
  replace H := H.nilRd (kSlice kByte)
  replace H := H.nilOwn (kSlice kByte) 29
  replace H := Hp.closeO_store_Store (x := (⟨⟨0, [], [], []⟩, false, 0, false, false⟩ : store_Store)) (H.f1.f1.f2) 1 rfl 0 rfl
  try dsimp only at k_2
  obtain rfl := Option.some.inj k_2
  exact RET _ _ (ret1 F rfl rfl ⟨_, rfl, _, rfl, rfl, H.px1.px0.f1⟩)
 rintro v w ⟨x2, rfl, rfl, H⟩ a F
 try dsimp only at h F H
 refine ls (lbs F H (e := 3) (vs := [(0, .int .i64 0), (1, .int .i64 x2)]) (cs := [.int .i64 0, .int .i64 x2]) rfl (fun w => by kernel_rfl) fun g6 w a H F => ?_)
 refine qw F (r_len (F.t 13 rfl) Try.underlying74) fun a F => ?_
 refine mv F (v := .int .i64 0) rfl fun a F => ?_
 refine rgend ?_
 replace H := Hp.litRd (kd := (kInt .i64)) (xs := [0, x2]) (H) ((SayL.cons (kd := (kInt .i64)) (c1 := [.int .i64 0]) (y := 0) (fun Z hp => rfl) (SayL.cons (kd := (kInt .i64)) (c1 := [.int .i64 x2]) (y := x2) (fun Z hp => rfl) SayL.nil))) (Nat.le_of_ble_eq_true rfl)
 obtain ⟨o_9, k_9, h⟩ := Option.bind_eq_some_iff.1 h
 refine cut (fun a w => ∃ (x9 : store_Store), x9 = o_9 ∧ Fr 58 [] [(3, pt g1)] a ∧ Hp w0 ps (obj_disk_Disk g0_ a0 :: obj_store_Store g1 g0_ x9 :: fs) w) (wp_block ?_) ?_
 ·refine wloop (store_Open_b0 a0 x2) (fun (s : Int × store_Store) a w => Fr 58 [] [(0, pt g0_), (3, pt g1), (13, .slice (some ⟨g6, 0, none⟩) 2 2), (14, .int .i64 2), (15, .int .i64 s.1)] a ∧ Hp w0 (rd (kInt .i64) (some ⟨g6, 0, none⟩) 2 ([0, x2]) :: ps) (obj_disk_Disk g0_ a0 :: obj_store_Store g1 g0_ s.2 :: fs) w) k_9 ⟨F.only [0, 3, 13, 14, 15] rfl, H⟩ ?_
  rintro ⟨x7, x8⟩ a w q_9 j_9 u_9 ⟨F, H⟩
  unfold store_Open_b0 at j_9
  try dsimp only at j_9 F H
  refine rg ?_
  refine qw F (r_lt (F.t 15 rfl) (F.t 14 rfl)) fun a F => ?_
  refine rgend ?_
  refine wp_seq ?_
  by_cases c11 : x7 < 2
  ·rw [if_pos c11] at j_9
   rw [decide_eq_true c11] at F
   refine wp_cond_true (F.ev rfl) ?_
   refine wp_skip ?_
   refine wp_seq ?_
   refine wp_block ?_
   refine rg ?_
   obtain ⟨c12, j_9⟩ := guardO j_9
   obtain ⟨g13, o14, s15, hr, H⟩ := H.ix 0 0 rfl (F.t 13 rfl) (F.t 15 rfl) Try.underlying74 sz3 (by decide) c12.1 c12.2
   obtain rfl := H.says_int 1 rfl
   refine qw F (hr _ _ _ _ _ _) fun a F => ?_
   refine qw F (r_ld (F.t 17 rfl) (range_cell (j := 0) (H.range 0 rfl) rfl) one3) fun a F => ?_
   refine as_ F rfl fun a F => ?_
   refine rgend ?_
   refine rg ?_
   iterate 3 refine mv F rfl fun a F => ?_
   obtain ⟨o_16, k_16, j_9⟩ := Option.bind_eq_some_iff.1 j_9
   refine ls (call F Try.func36 (R := fun v w => ∃ (x16 : Int), x16 = o_16 ∧ v = .int .i64 x16 ∧ Hp w0 (rd (kInt .i64) (some ⟨g6, 0, none⟩) 2 ([0, x2]) :: ps) (obj_disk_Disk g0_ a0 :: obj_store_Store g1 g0_ x8 :: fs) w) (args := [pt g1]) (cap := []) ?_ rfl rfl ?_)
   ·refine enter [pt g1] 9 Try.func36 fun Q a NP RET NRM F => ?_
    replace NP := np NP
    refine rg ?_
    refine as_ F (v := .int .i64 0) rfl fun a F => ?_
    refine rgend ?_
    refine rg ?_
    refine mv F rfl fun a F => ?_
    refine qw F (r_nc (F.t 3 rfl)) fun a F => ?_
    refine qw F (r_fa (off := 0) (F.t 4 rfl) fa73_0) fun a F => ?_
    obtain ⟨A18, c19, A20, c21, A22, c23, H⟩ := Hp.openO_store_Store (H.f1)
    refine qw F (r_ld (F.t 5 rfl) (cel_cell (o := 0) (H.cell 0 rfl) rfl) one24) fun a F => ?_
    obtain ⟨x24, e25, k_16⟩ := Option.bind_eq_some_iff.1 k_16
    try dsimp only at k_16
    refine ls (call F Try.func76 (disk_Disk_Sectors_ok (H.f1.f1.f2) e25) rfl rfl fun v w hR a F => ?_)
    obtain ⟨rfl, H⟩ := hR
    refine qw F (r_quo (F.t 7 rfl) (F.k (.int .i64 2)) (by decide)) fun a F => ?_
    refine as_ F rfl fun a F => ?_
    refine rgend ?_
    replace F := F.only [2] (l' := [(2, _)]) rfl
    refine wp_ret ?_
    replace H := Hp.closeO_store_Store (x := x8) (H.f2.f2) 0 rfl 1 rfl
    try dsimp only at k_16
    obtain rfl := Option.some.inj k_16
    exact RET _ _ (ret1 F rfl rfl ⟨_, rfl, _, rfl, rfl, H.px3.px2.px1.px0.f1⟩)
   rintro v w ⟨x16, rfl, rfl, H⟩ a F
   try dsimp only at j_9 F H
   obtain ⟨⟨x26, x27⟩, e28, j_9⟩ := Option.bind_eq_some_iff.1 j_9
   try dsimp only at j_9
   refine ls (call F Try.func37 (region_Read_ok (H) e28) rfl rfl fun v w hR a F => ?_)
   obtain ⟨A29, c30, A31, c32, A33, c34, rfl, H⟩ := hR
   refine mv F rfl fun a F => ?_
   iterate 2 refine qw F (r_ex (F.t 19 rfl) rfl) fun a F => ?_
   refine ls (lal F H ti32 (cs := [.int .i64 0, .slice none 0 0, .slice none 0 0, .slice none 0 0]) rfl fun g35 w a H F => ?_)
   refine stF F [.int .i64 x26.Gen, .slice A29 x26.State.length c30, .slice A31 x26.Kept.length c32, .slice A33 x26.More.length c34] H rfl rfl sz32 fun w a H F => ?_
   refine as_ F rfl fun a F => ?_
   refine rgend ?_
   replace F := F.only [7, 6, 5, 0, 3, 13, 14, 15] (l' := [(7, _), (6, _), (5, _), (0, _), (3, _), (13, _), (14, _), (15, _)]) rfl
   refine wp_seq ?_
   obtain ⟨o_36, k_36, j_9⟩ := Option.bind_eq_some_iff.1 j_9
   refine cut (fun a w => ∃ (x36 : Bool), x36 = o_36 ∧ Fr 58 [] [(0, pt g0_), (3, pt g1), (5, .int .i64 ((([0, x2]).getD (x7 : Int).toNat 0))), (6, pt g35), (13, .slice (some ⟨g6, 0, none⟩) 2 2), (14, .int .i64 2), (15, .int .i64 x7), (44, .bool x36)] a ∧ Hp w0 (rd (kInt .i64) (some ⟨g6, 0, none⟩) 2 ([0, x2]) :: rd kByte A29 c30 x26.State :: rd (kSlice kByte) A31 c32 x26.Kept :: ps) (own (kSlice kByte) 29 A33 c34 x26.More :: obj_disk_Disk g0_ a0 :: obj_store_Store g1 g0_ x8 :: cel g35 [.int .i64 x26.Gen, .slice A29 x26.State.length c30, .slice A31 x26.Kept.length c32, .slice A33 x26.More.length c34] 32 :: fs) w) ?_ ?_
   ·skip
    obtain ⟨A38, c39, A40, c41, A42, c43, H⟩ := Hp.openO_store_Store (H.f2.f2.f2.f3)
    replace H := H.drew
    have HS := H.fx4.fx3.fx1
    refine dr (fun w => Hp w0 (rd kByte A38 c39 x8.now.State :: rd (kSlice kByte) A40 c41 x8.now.Kept :: rd kByte A29 c30 x26.State :: rd (kSlice kByte) A31 c32 x26.Kept :: rd (kInt .i64) (some ⟨g6, 0, none⟩) 2 ([0, x2]) :: ps) (cel g1 [pt g0_, .int .i64 x8.now.Gen, .slice A38 x8.now.State.length c39, .slice A40 x8.now.Kept.length c41, .slice A42 x8.now.More.length c43, .bool x8.has_, .int .i64 x8.from_, .bool x8.begun, .bool x8.broken] 73 :: cel g35 [.int .i64 x26.Gen, .slice A29 x26.State.length c30, .slice A31 x26.Kept.length c32, .slice A33 x26.More.length c34] 32 :: fs) w) _ (by kernel_rfl) ?_ (n := 18)
    refine dk 0 F rfl NP HS (fun w S => (r_mv (F.t 7 rfl))) fun a F => ?_
    refine dk 1 F rfl NP HS (fun w S => (r_mv (F.t 27 rfl))) fun a F => ?_
    by_cases c44 : x27 = true
    ·rw [if_pos c44] at k_36
     rw [c44] at F
     refine dk 2 F rfl NP HS (fun w S => (r_mv (F.t 3 rfl))) fun a F => ?_
     refine dk 3 F rfl NP HS (fun w S => (r_nc (F.t 29 rfl))) fun a F => ?_
     refine dk 4 F rfl NP HS (fun w S => (r_fa (off := 5) (F.t 30 rfl) fa73_2)) fun a F => ?_
     refine dk 5 F rfl NP HS (fun w S => (r_ld (F.t 31 rfl) (cel_cell (o := 5) (S.cell 0 rfl) rfl) one4)) fun a F => ?_
     refine dk 6 F rfl NP HS (fun w S => (r_not (F.t 32 rfl))) fun a F => ?_
     refine dk 7 F rfl NP HS (fun w S => (r_mv (F.t 33 rfl))) fun a F => ?_
     by_cases c45 : x8.has_ = true
     ·rw [if_pos c45] at k_36
      rw [c45] at F
      refine dk 8 F rfl NP HS (fun w S => (r_fa (off := 0) (F.t 6 rfl) fa32_0)) fun a F => ?_
      refine dk 9 F rfl NP HS (fun w S => (r_ld (F.t 35 rfl) (cel_cell (o := 0) (S.cell 1 rfl) rfl) one2)) fun a F => ?_
      refine dk 10 F rfl NP HS (fun w S => (r_mv (F.t 3 rfl))) fun a F => ?_
      refine dk 11 F rfl NP HS (fun w S => (r_nc (F.t 37 rfl))) fun a F => ?_
      refine dk 12 F rfl NP HS (fun w S => (r_fa (off := 1) (F.t 38 rfl) fa73_1)) fun a F => ?_
      refine dk 13 F rfl NP HS (fun w S => (r_fa (off := 0) (F.t 39 rfl) fa32_0)) fun a F => ?_
      refine dk 14 F rfl NP HS (fun w S => (r_ld (F.t 40 rfl) (cel_cell (o := 1) (S.cell 0 rfl) rfl) one2)) fun a F => ?_
      refine dk 15 F rfl NP HS (fun w S => (r_gt (F.t 36 rfl) (F.t 41 rfl))) fun a F => ?_
      refine dk 16 F rfl NP HS (fun w S => (r_pickF (F.t 34 rfl) (F.t 42 rfl))) fun a F => ?_
      refine dk 17 F rfl NP HS (fun w S => (r_pickT (F.t 28 rfl) (F.t 43 rfl))) fun a F => ?_
      refine ddone (by kernel_rfl) ?_
      replace F := F.only [44, 6, 5, 0, 3, 13, 14, 15] (l' := [(44, _), (6, _), (5, _), (0, _), (3, _), (13, _), (14, _), (15, _)]) rfl
      replace H := Hp.closeO_store_Store (x := x8) (H) 0 rfl 1 rfl
      try dsimp only at k_36
      obtain rfl := Option.some.inj k_36
      exact ⟨_, rfl, F.only [0, 3, 5, 6, 13, 14, 15, 44] rfl, H.p3.p3.p6.px3.px3.px3.px3.px3.f1.f1.f3.f3⟩
     rw [if_neg c45] at k_36
     rw [Bool.eq_false_iff.2 c45] at F
     refine df 8 F rfl NP HS fun a F => ?_
     refine df 9 F rfl NP HS fun a F => ?_
     refine df 10 F rfl NP HS fun a F => ?_
     refine df 11 F rfl NP HS fun a F => ?_
     refine df 12 F rfl NP HS fun a F => ?_
     refine df 13 F rfl NP HS fun a F => ?_
     refine df 14 F rfl NP HS fun a F => ?_
     refine df 15 F rfl NP HS fun a F => ?_
     refine dk 16 F rfl NP HS (fun w S => (r_pickT (F.t 34 rfl) (F.k (.bool true)))) fun a F => ?_
     refine dk 17 F rfl NP HS (fun w S => (r_pickT (F.t 28 rfl) (F.t 43 rfl))) fun a F => ?_
     refine ddone (by kernel_rfl) ?_
     replace F := F.only [44, 6, 5, 0, 3, 13, 14, 15] (l' := [(44, _), (6, _), (5, _), (0, _), (3, _), (13, _), (14, _), (15, _)]) rfl
     replace H := Hp.closeO_store_Store (x := x8) (H) 0 rfl 1 rfl
     try dsimp only at k_36
     obtain rfl := Option.some.inj k_36
     exact ⟨_, rfl, F.only [0, 3, 5, 6, 13, 14, 15, 44] rfl, H.p3.p3.p6.px3.px3.px3.px3.px3.f1.f1.f3.f3⟩
    rw [if_neg c44] at k_36
    rw [Bool.eq_false_iff.2 c44] at F
    refine df 2 F rfl NP HS fun a F => ?_
    refine df 3 F rfl NP HS fun a F => ?_
    refine df 4 F rfl NP HS fun a F => ?_
    refine df 5 F rfl NP HS fun a F => ?_
    refine df 6 F rfl NP HS fun a F => ?_
    refine df 7 F rfl NP HS fun a F => ?_
    refine df 8 F rfl NP HS fun a F => ?_
    refine df 9 F rfl NP HS fun a F => ?_
    refine df 10 F rfl NP HS fun a F => ?_
    refine df 11 F rfl NP HS fun a F => ?_
    refine df 12 F rfl NP HS fun a F => ?_
    refine df 13 F rfl NP HS fun a F => ?_
    refine df 14 F rfl NP HS fun a F => ?_
    refine df 15 F rfl NP HS fun a F => ?_
    refine df 16 F rfl NP HS fun a F => ?_
    refine dk 17 F rfl NP HS (fun w S => (r_pickF (F.t 28 rfl) (F.k (.bool false)))) fun a F => ?_
    refine ddone (by kernel_rfl) ?_
    replace F := F.only [44, 6, 5, 0, 3, 13, 14, 15] (l' := [(44, _), (6, _), (5, _), (0, _), (3, _), (13, _), (14, _), (15, _)]) rfl
    replace H := Hp.closeO_store_Store (x := x8) (H) 0 rfl 1 rfl
    try dsimp only at k_36
    obtain rfl := Option.some.inj k_36
    exact ⟨_, rfl, F.only [0, 3, 5, 6, 13, 14, 15, 44] rfl, H.p3.p3.p6.px3.px3.px3.px3.px3.f1.f1.f3.f3⟩
   rintro a w ⟨x36, rfl, F, H⟩
   try dsimp only at j_9 F H
   obtain ⟨o_46, k_46, j_9⟩ := Option.bind_eq_some_iff.1 j_9
   refine cut (fun a w => ∃ (x46 : store_Store), x46 = o_46 ∧ Fr 58 [] [(0, pt g0_), (3, pt g1), (13, .slice (some ⟨g6, 0, none⟩) 2 2), (14, .int .i64 2), (15, .int .i64 x7)] a ∧ Hp w0 (rd (kInt .i64) (some ⟨g6, 0, none⟩) 2 ([0, x2]) :: ps) (obj_disk_Disk g0_ a0 :: obj_store_Store g1 g0_ x46 :: fs) w) ?_ ?_
   ·skip
    by_cases c48 : x36 = true
    ·rw [if_pos c48] at k_46
     rw [c48] at F
     refine wp_cond_true (F.ev rfl) ?_
     refine wp_region_lit ?_
     iterate 3 refine mv F rfl fun a F => ?_
     refine qw F (r_ldA (F.t 6 rfl) (cel_range (o := 0) (n := 4) (vs := [.int .i64 x26.Gen, .slice A29 x26.State.length c30, .slice A31 x26.Kept.length c32, .slice A33 x26.More.length c34]) (H.cell 3 rfl) rfl) agg32 rfl) fun a F => ?_
     refine mv F rfl fun a F => ?_
     refine qw F (r_nc (F.t 45 rfl)) fun a F => ?_
     refine qw F (r_fa (off := 1) (F.t 50 rfl) fa73_1) fun a F => ?_
     obtain ⟨A49, c50, A51, c52, A53, c54, H⟩ := Hp.openO_store_Store (H.f3.f2.f2.f3)
     refine sto F [.int .i64 x26.Gen, .slice A29 x26.State.length c30, .slice A31 x26.Kept.length c32, .slice A33 x26.More.length c34] [.pointer (some ⟨g0_, 0, none⟩), .int .i64 x26.Gen, .slice A29 x26.State.length c30, .slice A31 x26.Kept.length c32, .slice A33 x26.More.length c34, .bool x8.has_, .int .i64 x8.from_, .bool x8.begun, .bool x8.broken] H rfl rfl sz32 fun w a H F => ?_
     refine qw F (r_nc (F.t 46 rfl)) fun a F => ?_
     refine qw F (r_fa (off := 5) (F.t 52 rfl) fa73_2) fun a F => ?_
     refine sto F [.bool true] [.pointer (some ⟨g0_, 0, none⟩), .int .i64 x26.Gen, .slice A29 x26.State.length c30, .slice A31 x26.Kept.length c32, .slice A33 x26.More.length c34, .bool true, .int .i64 x8.from_, .bool x8.begun, .bool x8.broken] H rfl rfl sz4 fun w a H F => ?_
     refine qw F (r_nc (F.t 47 rfl)) fun a F => ?_
     refine qw F (r_fa (off := 6) (F.t 54 rfl) fa73_3) fun a F => ?_
     refine sto F [.int .i64 ((([0, x2]).getD (x7 : Int).toNat 0))] [.pointer (some ⟨g0_, 0, none⟩), .int .i64 x26.Gen, .slice A29 x26.State.length c30, .slice A31 x26.Kept.length c32, .slice A33 x26.More.length c34, .bool true, .int .i64 ((([0, x2]).getD (x7 : Int).toNat 0)), .bool x8.begun, .bool x8.broken] H rfl rfl sz3 fun w a H F => ?_
     refine wpList_nil ?_
     replace F := F.only [0, 3, 13, 14, 15] (l' := [(0, _), (3, _), (13, _), (14, _), (15, _)]) rfl
     replace H := Hp.closeO_store_Store (x := (⟨x26, true, (([0, x2]).getD (x7 : Int).toNat 0), x8.begun, x8.broken⟩ : store_Store)) (H.f4.f4.f3.f4.f4) 3 rfl 4 rfl
     try dsimp only at k_46
     obtain rfl := Option.some.inj k_46
     exact ⟨_, rfl, F.only [0, 3, 13, 14, 15] rfl, H.px4.px3.px1.px0.f2.fx3.fx2⟩
    rw [if_neg c48] at k_46
    rw [Bool.eq_false_iff.2 c48] at F
    refine wp_cond_false (F.ev rfl) ?_
    refine wp_skip ?_
    try dsimp only at k_46
    obtain rfl := Option.some.inj k_46
    exact ⟨_, rfl, F.only [0, 3, 13, 14, 15] rfl, H.px2.px1.fx3.fx0⟩
   rintro a w ⟨x46, rfl, F, H⟩
   try dsimp only at j_9 F H
   refine wp_region_lit ?_
   refine qw F (r_add (F.t 15 rfl) (F.k (.int .i64 1))) fun a F => ?_
   refine mv F rfl fun a F => ?_
   refine wpList_nil ?_
   try dsimp only at j_9
   obtain rfl := Option.some.inj j_9
   exact ⟨_, rfl, F.only [0, 3, 13, 14, 15] rfl, H⟩
  rw [if_neg c11] at j_9
  rw [decide_eq_false c11] at F
  refine wp_cond_false (F.ev rfl) ?_
  refine wp_exit ?_
  try dsimp only at j_9
  obtain rfl := Option.some.inj j_9
  obtain rfl := u_9 _ rfl
  repeat (with_reducible refine exT ?_)
  with_reducible refine exB ?_
  exact ⟨_, rfl, F.only [3] rfl, H.px0⟩
 rintro a w ⟨x9, rfl, F, H⟩
 try dsimp only at h F H
 refine rg ?_
 refine mv F rfl fun a F => ?_
 refine as_ F rfl fun a F => ?_
 refine rgend ?_
 refine wp_ret ?_
 try dsimp only at h
 obtain rfl := Option.some.inj h
 exact RET _ _ (ret1 F rfl rfl ⟨_, rfl, g1, rfl, H.f1⟩)
def store_Store_Has_f (a0 : store_Store) : Option (Bool) :=
 some a0.has_
theorem store_Store_Has_ok {w0 w : World} {ps : List PF} {fs : List SF} {a0 : store_Store} {g0_ : Nat} {gx_ : Nat} {r0 : Bool} (H : Hp w0 ps (obj_store_Store g0_ gx_ a0 :: fs) w) (h : store_Store_Has_f a0 = some r0) :
  Calls Try.prog 16 [pt g0_].toArray w fun e w' => ∃ v, e = .returned v ∧ v = .bool r0 ∧ Hp w0 ps (obj_store_Store g0_ gx_ a0 :: fs) w' := by
 refine enter [pt g0_] 7 Try.func16 fun Q a NP RET NRM F => ?_
 replace NP := np NP
 unfold store_Store_Has_f at h
 refine rg ?_
 refine as_ F (v := .bool false) rfl fun a F => ?_
 refine rgend ?_
 refine rg ?_
 refine mv F rfl fun a F => ?_
 refine qw F (r_nc (F.t 3 rfl)) fun a F => ?_
 refine qw F (r_fa (off := 5) (F.t 4 rfl) fa73_2) fun a F => ?_
 obtain ⟨A1, c2, A3, c4, A5, c6, H⟩ := Hp.openO_store_Store (H)
 refine qw F (r_ld (F.t 5 rfl) (cel_cell (o := 5) (H.cell 0 rfl) rfl) one4) fun a F => ?_
 refine as_ F rfl fun a F => ?_
 refine rgend ?_
 replace F := F.only [2] (l' := [(2, _)]) rfl
 refine wp_ret ?_
 replace H := Hp.closeO_store_Store (x := a0) (H) 0 rfl 1 rfl
 try dsimp only at h
 obtain rfl := Option.some.inj h
 exact RET _ _ (ret1 F rfl rfl ⟨_, rfl, rfl, H.px1.px0⟩)
def store_Store_Gen_f (a0 : store_Store) : Option (Int) :=
 some a0.now.Gen
theorem store_Store_Gen_ok {w0 w : World} {ps : List PF} {fs : List SF} {a0 : store_Store} {g0_ : Nat} {gx_ : Nat} {r0 : Int} (H : Hp w0 ps (obj_store_Store g0_ gx_ a0 :: fs) w) (h : store_Store_Gen_f a0 = some r0) :
  Calls Try.prog 20 [pt g0_].toArray w fun e w' => ∃ v, e = .returned v ∧ v = .int .i64 r0 ∧ Hp w0 ps (obj_store_Store g0_ gx_ a0 :: fs) w' := by
 refine enter [pt g0_] 8 Try.func20 fun Q a NP RET NRM F => ?_
 replace NP := np NP
 unfold store_Store_Gen_f at h
 refine rg ?_
 refine as_ F (v := .int .i64 0) rfl fun a F => ?_
 refine rgend ?_
 refine rg ?_
 refine mv F rfl fun a F => ?_
 refine qw F (r_nc (F.t 3 rfl)) fun a F => ?_
 refine qw F (r_fa (off := 1) (F.t 4 rfl) fa73_1) fun a F => ?_
 refine qw F (r_fa (off := 0) (F.t 5 rfl) fa32_0) fun a F => ?_
 obtain ⟨A1, c2, A3, c4, A5, c6, H⟩ := Hp.openO_store_Store (H)
 refine qw F (r_ld (F.t 6 rfl) (cel_cell (o := 1) (H.cell 0 rfl) rfl) one2) fun a F => ?_
 refine as_ F rfl fun a F => ?_
 refine rgend ?_
 replace F := F.only [2] (l' := [(2, _)]) rfl
 refine wp_ret ?_
 replace H := Hp.closeO_store_Store (x := a0) (H) 0 rfl 1 rfl
 try dsimp only at h
 obtain rfl := Option.some.inj h
 exact RET _ _ (ret1 F rfl rfl ⟨_, rfl, rfl, H.px1.px0⟩)
def store_Store_State_f (a0 : store_Store) : Option (List Int) :=
 ((slices_Clone_f a0.now.State).bind fun x7 => some x7)
theorem store_Store_State_ok {w0 w : World} {ps : List PF} {fs : List SF} {a0 : store_Store} {g0_ : Nat} {gx_ : Nat} {r0 : List Int} (H : Hp w0 ps (obj_store_Store g0_ gx_ a0 :: fs) w) (h : store_Store_State_f a0 = some r0) :
  Calls Try.prog 17 [pt g0_].toArray w fun e w' => ∃ v, e = .returned v ∧ ∃ (A0 : Option Addr) (c0 : Nat), v = .slice A0 r0.length c0 ∧ Hp w0 ps (own kByte 5 A0 c0 r0 :: obj_store_Store g0_ gx_ a0 :: fs) w' := by
 refine enter [pt g0_] 9 Try.func17 fun Q a NP RET NRM F => ?_
 replace NP := np NP
 unfold store_Store_State_f at h
 refine rg ?_
 refine as_ F (v := .slice none 0 0) rfl fun a F => ?_
 refine rgend ?_
 refine rg ?_
 refine mv F rfl fun a F => ?_
 refine qw F (r_nc (F.t 3 rfl)) fun a F => ?_
 refine qw F (r_fa (off := 1) (F.t 4 rfl) fa73_1) fun a F => ?_
 refine qw F (r_fa (off := 1) (F.t 5 rfl) fa32_1) fun a F => ?_
 obtain ⟨A1, c2, A3, c4, A5, c6, H⟩ := Hp.openO_store_Store (H)
 refine qw F (r_ld (F.t 6 rfl) (cel_cell (o := 2) (H.cell 0 rfl) rfl) one29) fun a F => ?_
 obtain ⟨x7, e8, h⟩ := Option.bind_eq_some_iff.1 h
 try dsimp only at h
 refine ls (call F Try.func39 (slices_Clone_ok (H.p0) e8) rfl rfl fun v w hR a F => ?_)
 obtain ⟨A9, c10, rfl, H⟩ := hR
 refine as_ F rfl fun a F => ?_
 refine rgend ?_
 replace F := F.only [2] (l' := [(2, _)]) rfl
 refine wp_ret ?_
 replace H := Hp.closeO_store_Store (x := a0) (H.f2.f2) 0 rfl 1 rfl
 try dsimp only at h
 obtain rfl := Option.some.inj h
 exact RET _ _ (ret1 F rfl rfl ⟨_, rfl, A9, c10, rfl, H.px1.px0.f1⟩)
def store_Store_Entries_b1 (a0 : store_Store) : ((List (List Int)) × Int) → Option ((List (List Int)) × Int ⊕ List (List Int))
 | (x38, x41) => (if x41 < (a0.now.More.length : Int) then (if 0 ≤ x41 ∧ x41 < (a0.now.More.length : Int) then ((slices_Clone_f ((a0.now.More.getD (x41 : Int).toNat []))).bind fun x55 => (if (x38.length + 1) * 24 ≤ 140737488355328 then some (.inl ((x38 ++ ([x55])), IntKind.i64.wrap (x41 + 1))) else none)) else none) else some (.inr x38))
def store_Store_Entries_b0 (a0 : store_Store) : ((List (List Int)) × Int) → Option ((List (List Int)) × Int ⊕ List (List Int))
 | (x11, x14) => (if x14 < (a0.now.Kept.length : Int) then (if 0 ≤ x14 ∧ x14 < (a0.now.Kept.length : Int) then ((slices_Clone_f ((a0.now.Kept.getD (x14 : Int).toNat []))).bind fun x26 => (if (x11.length + 1) * 24 ≤ 140737488355328 then some (.inl ((x11 ++ ([x26])), IntKind.i64.wrap (x14 + 1))) else none)) else none) else some (.inr x11))
def store_Store_Entries_f (a0 : store_Store) : Option (List (List Int)) :=
 ((((lp (store_Store_Entries_b0 a0) ([], 0)).bind fun x15 => some x15) : Option (List (List Int))).bind fun x7 => ((((lp (store_Store_Entries_b1 a0) ([], 0)).bind fun x42 => some x42) : Option (List (List Int))).bind fun x34 => (if (x7.length + x34.length) * 24 ≤ 140737488355328 then some (x7 ++ x34) else none)))
theorem store_Store_Entries_ok {w0 w : World} {ps : List PF} {fs : List SF} {a0 : store_Store} {g0_ : Nat} {gx_ : Nat} {r0 : List (List Int)} (H : Hp w0 ps (obj_store_Store g0_ gx_ a0 :: fs) w) (h : store_Store_Entries_f a0 = some r0) :
  Calls Try.prog 15 [pt g0_].toArray w fun e w' => ∃ v, e = .returned v ∧ ∃ (A0 : Option Addr) (c0 : Nat), v = .slice A0 r0.length c0 ∧ Hp w0 ps (own (kSlice kByte) 29 A0 c0 r0 :: obj_store_Store g0_ gx_ a0 :: fs) w' := by
 refine enter [pt g0_] 16 Try.func15 fun Q a NP RET NRM F => ?_
 replace NP := np NP
 unfold store_Store_Entries_f at h
 refine rg ?_
 refine as_ F (v := .slice none 0 0) rfl fun a F => ?_
 refine rgend ?_
 refine wp_seq ?_
 obtain ⟨A1, c2, A3, c4, A5, c6, H⟩ := Hp.openO_store_Store (H)
 replace H := H.drew
 have HS := H.fx1
 refine dr (fun w => Hp w0 (rd kByte A1 c2 a0.now.State :: rd (kSlice kByte) A3 c4 a0.now.Kept :: ps) (cel g0_ [pt gx_, .int .i64 a0.now.Gen, .slice A1 a0.now.State.length c2, .slice A3 a0.now.Kept.length c4, .slice A5 a0.now.More.length c6, .bool a0.has_, .int .i64 a0.from_, .bool a0.begun, .bool a0.broken] 73 :: fs) w) _ (by kernel_rfl) ?_ (n := 14)
 refine dk 0 F rfl NP HS (fun w S => (r_mv (F.t 0 rfl))) fun a F => ?_
 refine dk 1 F rfl NP HS (fun w S => (r_nc (F.t 3 rfl))) fun a F => ?_
 refine dk 2 F rfl NP HS (fun w S => (r_fa (off := 1) (F.t 4 rfl) fa73_1)) fun a F => ?_
 refine dk 3 F rfl NP HS (fun w S => (r_fa (off := 2) (F.t 5 rfl) fa32_2)) fun a F => ?_
 refine dk 4 F rfl NP HS (fun w S => (r_ld (F.t 6 rfl) (cel_cell (o := 3) (S.cell 0 rfl) rfl) one30)) fun a F => ?_
 refine dk 6 F rfl NP HS (fun w S => (r_mv (F.t 0 rfl))) fun a F => ?_
 refine dk 7 F rfl NP HS (fun w S => (r_nc (F.t 9 rfl))) fun a F => ?_
 refine dk 8 F rfl NP HS (fun w S => (r_fa (off := 1) (F.t 10 rfl) fa73_1)) fun a F => ?_
 refine dk 9 F rfl NP HS (fun w S => (r_fa (off := 3) (F.t 11 rfl) fa32_3)) fun a F => ?_
 refine dk 10 F rfl NP HS (fun w S => (r_ld (F.t 12 rfl) (cel_cell (o := 4) (S.cell 0 rfl) rfl) one30)) fun a F => ?_
 obtain ⟨o_9, k_9, h⟩ := Option.bind_eq_some_iff.1 h
 refine d1 5 rfl (by kernel_rfl) (call F Try.func38 (R := fun v w => ∃ (x7 : List (List Int)), x7 = o_9 ∧ ∃ (A8 : Option Addr) (c9 : Nat), v = .slice A8 x7.length c9 ∧ Hp w0 (rd (kSlice kByte) A3 c4 a0.now.Kept :: rd kByte A1 c2 a0.now.State :: ps) (own (kSlice kByte) 29 A8 c9 x7 :: own (kSlice kByte) 29 A5 c6 a0.now.More :: cel g0_ [pt gx_, .int .i64 a0.now.Gen, .slice A1 a0.now.State.length c2, .slice A3 a0.now.Kept.length c4, .slice A5 a0.now.More.length c6, .bool a0.has_, .int .i64 a0.from_, .bool a0.begun, .bool a0.broken] 73 :: fs) w) (args := [.slice A3 a0.now.Kept.length c4]) (cap := []) ?_ rfl rfl ?_)
 ·refine enter [.slice A3 a0.now.Kept.length c4] 19 Try.func38 fun Q a NP RET NRM F => ?_
  replace NP := np NP
  refine rg ?_
  refine as_ F (v := .slice none 0 0) rfl fun a F => ?_
  refine rgend ?_
  refine rg ?_
  refine as_ F (v := .slice none 0 0) rfl fun a F => ?_
  refine rgend ?_
  refine wp_seq ?_
  refine rg ?_
  refine mv F rfl fun a F => ?_
  refine qw F (r_len (F.t 6 rfl) Try.underlying30) fun a F => ?_
  refine mv F (v := .int .i64 0) rfl fun a F => ?_
  refine rgend ?_
  replace H := H.nilOwn (kSlice kByte) 29
  obtain ⟨o_17, k_17, k_9⟩ := Option.bind_eq_some_iff.1 k_9
  refine cut (fun a w => ∃ (x15 : List (List Int)), x15 = o_17 ∧ ∃ (A16 : Option Addr) (c17 : Nat), Fr 19 [] [(3, .slice A16 x15.length c17)] a ∧ Hp w0 (rd (kSlice kByte) A3 c4 a0.now.Kept :: rd kByte A1 c2 a0.now.State :: ps) (own (kSlice kByte) 29 A16 c17 x15 :: own (kSlice kByte) 29 A5 c6 a0.now.More :: cel g0_ [pt gx_, .int .i64 a0.now.Gen, .slice A1 a0.now.State.length c2, .slice A3 a0.now.Kept.length c4, .slice A5 a0.now.More.length c6, .bool a0.has_, .int .i64 a0.from_, .bool a0.begun, .bool a0.broken] 73 :: fs) w) (wp_block ?_) ?_
  ·refine wloop (store_Store_Entries_b0 a0) (fun (s : (List (List Int)) × Int) a w => ∃ (A12 : Option Addr) (c13 : Nat), Fr 19 [] [(3, .slice A12 s.1.length c13), (6, .slice A3 a0.now.Kept.length c4), (7, .int .i64 (a0.now.Kept.length : Int)), (8, .int .i64 s.2)] a ∧ Hp w0 (rd (kSlice kByte) A3 c4 a0.now.Kept :: rd kByte A1 c2 a0.now.State :: ps) (own (kSlice kByte) 29 A12 c13 s.1 :: own (kSlice kByte) 29 A5 c6 a0.now.More :: cel g0_ [pt gx_, .int .i64 a0.now.Gen, .slice A1 a0.now.State.length c2, .slice A3 a0.now.Kept.length c4, .slice A5 a0.now.More.length c6, .bool a0.has_, .int .i64 a0.from_, .bool a0.begun, .bool a0.broken] 73 :: fs) w) k_17 ⟨none, 0, F.only [3, 6, 7, 8] rfl, H.p0.p2.px2.px2.f1.f2.f2⟩ ?_
   rintro ⟨x11, x14⟩ a w q_17 j_17 u_17 ⟨A12, c13, F, H⟩
   unfold store_Store_Entries_b0 at j_17
   try dsimp only at j_17 F H
   refine rg ?_
   refine qw F (r_lt (F.t 8 rfl) (F.t 7 rfl)) fun a F => ?_
   refine rgend ?_
   refine wp_seq ?_
   by_cases c19 : x14 < (a0.now.Kept.length : Int)
   ·rw [if_pos c19] at j_17
    rw [decide_eq_true c19] at F
    refine wp_cond_true (F.ev rfl) ?_
    refine wp_skip ?_
    refine wp_seq ?_
    refine wp_block ?_
    refine rg ?_
    obtain ⟨c20, j_17⟩ := guardO j_17
    obtain ⟨g21, o22, s23, hr, H⟩ := H.ix [] 0 rfl (F.t 6 rfl) (F.t 8 rfl) Try.underlying30 sz29 (by decide) c20.1 c20.2
    obtain ⟨A24, c25, rfl, H⟩ := H.says_slice 1 rfl
    refine qw F (hr _ _ _ _ _ _) fun a F => ?_
    refine qw F (r_ld (F.t 10 rfl) (range_cell (j := 0) (H.range 1 rfl) rfl) one29) fun a F => ?_
    refine as_ F rfl fun a F => ?_
    refine rgend ?_
    refine wp_region_lit ?_
    iterate 2 refine mv F rfl fun a F => ?_
    obtain ⟨x26, e27, j_17⟩ := Option.bind_eq_some_iff.1 j_17
    try dsimp only at j_17
    refine ls (call F Try.func39 (slices_Clone_ok (H.p0) e27) rfl rfl fun v w hR a F => ?_)
    obtain ⟨A28, c29, rfl, H⟩ := hR
    replace H := (H).freeze
    refine ls (lbs F H (e := 29) (vs := [(0, .slice A28 x26.length c29)]) (cs := [.slice A28 x26.length c29]) rfl (fun w => by kernel_rfl) fun g30 w a H F => ?_)
    obtain ⟨c31, j_17⟩ := guardO j_17
    obtain ⟨A32, c33, _, hr, H⟩ := Hp.appendCelL (kd := (kSlice kByte)) (xs := x11) (ys := [x26]) (H.f3.f3.f2.f3) (F.t 12 rfl) (F.t 15 rfl) Try.underlying30 ti29 rfl (by decide) (by decide) rfl ((SayL.cons (kd := (kSlice kByte)) (c1 := [.slice A28 x26.length c29]) (y := x26) (fun Z hp => ⟨A28, c29, rfl, pat hp 0 rfl⟩) SayL.nil)) c31
    refine qw F (hr _ _ _ _ _) fun a F => ?_
    refine as_ F rfl fun a F => ?_
    refine wpList_nil ?_
    replace F := F.only [3, 6, 7, 8] (l' := [(3, _), (6, _), (7, _), (8, _)]) rfl
    refine wp_region_lit ?_
    refine qw F (r_add (F.t 8 rfl) (F.k (.int .i64 1))) fun a F => ?_
    refine mv F rfl fun a F => ?_
    refine wpList_nil ?_
    try dsimp only at j_17
    obtain rfl := Option.some.inj j_17
    exact ⟨_, rfl, A32, c33, F.only [3, 6, 7, 8] rfl, H.px3.px2.px1.px0⟩
   rw [if_neg c19] at j_17
   rw [decide_eq_false c19] at F
   refine wp_cond_false (F.ev rfl) ?_
   refine wp_exit ?_
   try dsimp only at j_17
   obtain rfl := Option.some.inj j_17
   obtain rfl := u_17 _ rfl
   repeat (with_reducible refine exT ?_)
   with_reducible refine exB ?_
   exact ⟨_, rfl, A12, c13, F.only [3] rfl, H⟩
  rintro a w ⟨x15, rfl, A16, c17, F, H⟩
  try dsimp only at k_9 F H
  refine rg ?_
  refine mv F rfl fun a F => ?_
  refine as_ F rfl fun a F => ?_
  refine rgend ?_
  refine wp_ret ?_
  try dsimp only at k_9
  obtain rfl := Option.some.inj k_9
  exact RET _ _ (ret1 F rfl rfl ⟨_, rfl, _, rfl, A16, c17, rfl, H⟩)
 rintro v w ⟨x7, rfl, A8, c9, rfl, H⟩ a F
 try dsimp only at h F H
 have HS := H.fx1.fx0
 refine kg _ HS (fun w S => S.p0.p2.px2.px2) ?_
 obtain ⟨o_36, k_36, h⟩ := Option.bind_eq_some_iff.1 h
 refine d1 11 rfl (by kernel_rfl) (call F Try.func38 (R := fun v w => ∃ (x34 : List (List Int)), x34 = o_36 ∧ ∃ (A35 : Option Addr) (c36 : Nat), v = .slice A35 x34.length c36 ∧ Hp w0 (rd (kSlice kByte) A3 c4 a0.now.Kept :: rd kByte A1 c2 a0.now.State :: ps) (own (kSlice kByte) 29 A35 c36 x34 :: own (kSlice kByte) 29 A8 c9 x7 :: own (kSlice kByte) 29 A5 c6 a0.now.More :: cel g0_ [pt gx_, .int .i64 a0.now.Gen, .slice A1 a0.now.State.length c2, .slice A3 a0.now.Kept.length c4, .slice A5 a0.now.More.length c6, .bool a0.has_, .int .i64 a0.from_, .bool a0.begun, .bool a0.broken] 73 :: fs) w) (args := [.slice A5 a0.now.More.length c6]) (cap := []) ?_ rfl rfl ?_)
 ·refine enter [.slice A5 a0.now.More.length c6] 19 Try.func38 fun Q a NP RET NRM F => ?_
  replace NP := np NP
  refine rg ?_
  refine as_ F (v := .slice none 0 0) rfl fun a F => ?_
  refine rgend ?_
  refine rg ?_
  refine as_ F (v := .slice none 0 0) rfl fun a F => ?_
  refine rgend ?_
  refine wp_seq ?_
  refine rg ?_
  refine mv F rfl fun a F => ?_
  refine qw F (r_len (F.t 6 rfl) Try.underlying30) fun a F => ?_
  refine mv F (v := .int .i64 0) rfl fun a F => ?_
  refine rgend ?_
  replace H := H.nilOwn (kSlice kByte) 29
  obtain ⟨o_44, k_44, k_36⟩ := Option.bind_eq_some_iff.1 k_36
  refine cut (fun a w => ∃ (x42 : List (List Int)), x42 = o_44 ∧ ∃ (A43 : Option Addr) (c44 : Nat), Fr 19 [] [(3, .slice A43 x42.length c44)] a ∧ Hp w0 (rd (kSlice kByte) A3 c4 a0.now.Kept :: rd kByte A1 c2 a0.now.State :: ps) (own (kSlice kByte) 29 A43 c44 x42 :: own (kSlice kByte) 29 A8 c9 x7 :: own (kSlice kByte) 29 A5 c6 a0.now.More :: cel g0_ [pt gx_, .int .i64 a0.now.Gen, .slice A1 a0.now.State.length c2, .slice A3 a0.now.Kept.length c4, .slice A5 a0.now.More.length c6, .bool a0.has_, .int .i64 a0.from_, .bool a0.begun, .bool a0.broken] 73 :: fs) w) (wp_block ?_) ?_
  ·refine wloop (store_Store_Entries_b1 a0) (fun (s : (List (List Int)) × Int) a w => ∃ (A39 : Option Addr) (c40 : Nat), Fr 19 [] [(3, .slice A39 s.1.length c40), (6, .slice A5 a0.now.More.length c6), (7, .int .i64 (a0.now.More.length : Int)), (8, .int .i64 s.2)] a ∧ Hp w0 (rd (kSlice kByte) A3 c4 a0.now.Kept :: rd kByte A1 c2 a0.now.State :: ps) (own (kSlice kByte) 29 A39 c40 s.1 :: own (kSlice kByte) 29 A5 c6 a0.now.More :: own (kSlice kByte) 29 A8 c9 x7 :: cel g0_ [pt gx_, .int .i64 a0.now.Gen, .slice A1 a0.now.State.length c2, .slice A3 a0.now.Kept.length c4, .slice A5 a0.now.More.length c6, .bool a0.has_, .int .i64 a0.from_, .bool a0.begun, .bool a0.broken] 73 :: fs) w) k_44 ⟨none, 0, F.only [3, 6, 7, 8] rfl, H.f3.f2.f3.f3⟩ ?_
   rintro ⟨x38, x41⟩ a w q_44 j_44 u_44 ⟨A39, c40, F, H⟩
   unfold store_Store_Entries_b1 at j_44
   try dsimp only at j_44 F H
   refine rg ?_
   refine qw F (r_lt (F.t 8 rfl) (F.t 7 rfl)) fun a F => ?_
   refine rgend ?_
   refine wp_seq ?_
   by_cases c46 : x41 < (a0.now.More.length : Int)
   ·rw [if_pos c46] at j_44
    rw [decide_eq_true c46] at F
    refine wp_cond_true (F.ev rfl) ?_
    refine wp_skip ?_
    refine wp_seq ?_
    refine wp_block ?_
    refine rg ?_
    obtain ⟨c47, j_44⟩ := guardO j_44
    obtain ⟨g48, s49, hA, hq51, hl50, H⟩ := H.ixOwn2 [] 1 rfl (F.t 6 rfl) (F.t 8 rfl) Try.underlying30 sz29 (by decide) c47.1 c47.2
    have hA52 := hA
    obtain ⟨A53, c54, rfl, H⟩ := H.says_slice 0 rfl
    refine qw F (hq51 _ _ _ _ _ _) fun a F => ?_
    refine qw F (r_ld (F.t 10 rfl) (range_cell (j := 0) hl50 rfl) one29) fun a F => ?_
    refine as_ F rfl fun a F => ?_
    refine rgend ?_
    refine wp_region_lit ?_
    iterate 2 refine mv F rfl fun a F => ?_
    obtain ⟨x55, e56, j_44⟩ := Option.bind_eq_some_iff.1 j_44
    try dsimp only at j_44
    refine ls (call F Try.func39 (slices_Clone_ok (H.p0) e56) rfl rfl fun v w hR a F => ?_)
    obtain ⟨A57, c58, rfl, H⟩ := hR
    replace H := (H).freeze
    refine ls (lbs F H (e := 29) (vs := [(0, .slice A57 x55.length c58)]) (cs := [.slice A57 x55.length c58]) rfl (fun w => by kernel_rfl) fun g59 w a H F => ?_)
    obtain ⟨c60, j_44⟩ := guardO j_44
    obtain ⟨A61, c62, _, hr, H⟩ := Hp.appendCelL (kd := (kSlice kByte)) (xs := x38) (ys := [x55]) (H.f4.f4.f4.f3.f4) (F.t 12 rfl) (F.t 15 rfl) Try.underlying30 ti29 rfl (by decide) (by decide) rfl ((SayL.cons (kd := (kSlice kByte)) (c1 := [.slice A57 x55.length c58]) (y := x55) (fun Z hp => ⟨A57, c58, rfl, pat hp 0 rfl⟩) SayL.nil)) c60
    refine qw F (hr _ _ _ _ _) fun a F => ?_
    refine as_ F rfl fun a F => ?_
    refine wpList_nil ?_
    replace F := F.only [3, 6, 7, 8] (l' := [(3, _), (6, _), (7, _), (8, _)]) rfl
    refine wp_region_lit ?_
    refine qw F (r_add (F.t 8 rfl) (F.k (.int .i64 1))) fun a F => ?_
    refine mv F rfl fun a F => ?_
    refine wpList_nil ?_
    try dsimp only at j_44
    obtain rfl := Option.some.inj j_44
    exact ⟨_, rfl, A61, c62, F.only [3, 6, 7, 8] rfl, H.px2.px1.px0⟩
   rw [if_neg c46] at j_44
   rw [decide_eq_false c46] at F
   refine wp_cond_false (F.ev rfl) ?_
   refine wp_exit ?_
   try dsimp only at j_44
   obtain rfl := Option.some.inj j_44
   obtain rfl := u_44 _ rfl
   repeat (with_reducible refine exT ?_)
   with_reducible refine exB ?_
   exact ⟨_, rfl, A39, c40, F.only [3] rfl, H.f3.f2.f3.f3⟩
  rintro a w ⟨x42, rfl, A43, c44, F, H⟩
  try dsimp only at k_36 F H
  refine rg ?_
  refine mv F rfl fun a F => ?_
  refine as_ F rfl fun a F => ?_
  refine rgend ?_
  refine wp_ret ?_
  try dsimp only at k_36
  obtain rfl := Option.some.inj k_36
  exact RET _ _ (ret1 F rfl rfl ⟨_, rfl, _, rfl, A43, c44, rfl, H⟩)
 rintro v w ⟨x34, rfl, A35, c36, rfl, H⟩ a F
 try dsimp only at h F H
 have HS := H.fx2.fx1.fx0
 refine kg _ HS (fun w S => S) ?_
 obtain ⟨c63, h⟩ := guardO h
 replace H := (H).freeze
 obtain ⟨A64, c65, _, hr, H⟩ := Hp.appendRd (kd := (kSlice kByte)) (xs := x7) (ys := x34) (H) 0 rfl (F.t 8 rfl) (F.t 14 rfl) Try.underlying30 ti29 rfl (by decide) (by decide) c63
 refine d1 12 rfl (by kernel_rfl) (qv F (hr _ _ _ _ _) fun a F => ?_)
 have HS := H.fx1.fx0
 refine kg _ HS (fun w S => S.px0) ?_
 refine dk 13 F rfl NP HS (fun w S => (r_as (F.t 15 rfl))) fun a F => ?_
 refine ddone (by kernel_rfl) ?_
 replace F := F.only [2] (l' := [(2, _)]) rfl
 refine wp_ret ?_
 replace H := Hp.closeO_store_Store (x := a0) (H.f1.f2) 2 rfl 1 rfl
 try dsimp only at h
 obtain rfl := Option.some.inj h
 exact RET _ _ (ret1 F rfl rfl ⟨_, rfl, A64, c65, rfl, H.px2.px1.px0.f1⟩)
def store_Store_other_f (a0 : store_Store) (a1 : disk_Disk) : Option (Int) :=
 (((if a0.has_ = true then some ((decide (a0.from_ = 0))) else some false) : Option (Bool)).bind fun x1 => (if x1 = true then ((((disk_Disk_Sectors_f a1).bind fun x19 => some ((IntKind.i64.wrap (x19.tdiv 2)))) : Option (Int)).bind fun x11 => some x11) else some 0))
theorem store_Store_other_ok {w0 w : World} {ps : List PF} {fs : List SF} {a0 : store_Store} {g0_ : Nat} {a1 : disk_Disk} {g1_ : Nat} {r0 : Int} (H : Hp w0 ps (obj_store_Store g0_ g1_ a0 :: obj_disk_Disk g1_ a1 :: fs) w) (h : store_Store_other_f a0 a1 = some r0) :
  Calls Try.prog 43 [pt g0_].toArray w fun e w' => ∃ v, e = .returned v ∧ v = .int .i64 r0 ∧ Hp w0 ps (obj_store_Store g0_ g1_ a0 :: obj_disk_Disk g1_ a1 :: fs) w' := by
 refine enter [pt g0_] 16 Try.func43 fun Q a NP RET NRM F => ?_
 replace NP := np NP
 unfold store_Store_other_f at h
 refine rg ?_
 refine as_ F (v := .int .i64 0) rfl fun a F => ?_
 refine rgend ?_
 iterate 2 refine wp_seq ?_
 obtain ⟨o_1, k_1, h⟩ := Option.bind_eq_some_iff.1 h
 refine cut (fun a w => ∃ (x1 : Bool), x1 = o_1 ∧ Fr 16 [] [(0, pt g0_), (13, .bool x1)] a ∧ Hp w0 ps (obj_disk_Disk g1_ a1 :: obj_store_Store g0_ g1_ a0 :: fs) w) ?_ ?_
 ·skip
  refine wp_region_lit ?_
  refine mv F rfl fun a F => ?_
  refine qw F (r_nc (F.t 3 rfl)) fun a F => ?_
  refine qw F (r_fa (off := 5) (F.t 4 rfl) fa73_2) fun a F => ?_
  obtain ⟨A3, c4, A5, c6, A7, c8, H⟩ := Hp.openO_store_Store (H)
  refine qw F (r_ld (F.t 5 rfl) (cel_cell (o := 5) (H.cell 0 rfl) rfl) one4) fun a F => ?_
  refine mv F rfl fun a F => ?_
  by_cases c9 : a0.has_ = true
  ·rw [if_pos c9] at k_1
   rw [c9] at F
   refine mv F rfl fun a F => ?_
   refine qw F (r_nc (F.t 8 rfl)) fun a F => ?_
   refine qw F (r_fa (off := 6) (F.t 9 rfl) fa73_3) fun a F => ?_
   refine qw F (r_ld (F.t 10 rfl) (cel_cell (o := 6) (H.cell 0 rfl) rfl) one3) fun a F => ?_
   refine qw F (r_eq (F.t 11 rfl) (F.k (.int .i64 0))) fun a F => ?_
   refine qw F (r_pickT (F.t 7 rfl) (F.t 12 rfl)) fun a F => ?_
   refine wpList_nil ?_
   replace F := F.only [13, 0] (l' := [(13, _), (0, _)]) rfl
   replace H := Hp.closeO_store_Store (x := a0) (H) 0 rfl 1 rfl
   try dsimp only at k_1
   obtain rfl := Option.some.inj k_1
   exact ⟨_, rfl, F.only [0, 13] rfl, H.px1.px0.f1⟩
  rw [if_neg c9] at k_1
  rw [Bool.eq_false_iff.2 c9] at F
  iterate 5 refine of_ F fun a F => ?_
  refine qw F (r_pickF (F.t 7 rfl) (F.k (.bool false))) fun a F => ?_
  refine wpList_nil ?_
  replace F := F.only [13, 0] (l' := [(13, _), (0, _)]) rfl
  replace H := Hp.closeO_store_Store (x := a0) (H) 0 rfl 1 rfl
  try dsimp only at k_1
  obtain rfl := Option.some.inj k_1
  exact ⟨_, rfl, F.only [0, 13] rfl, H.px1.px0.f1⟩
 rintro a w ⟨x1, rfl, F, H⟩
 try dsimp only at h F H
 by_cases c10 : x1 = true
 ·rw [if_pos c10] at h
  rw [c10] at F
  refine wp_cond_true (F.ev rfl) ?_
  refine rg ?_
  refine mv F rfl fun a F => ?_
  obtain ⟨o_11, k_11, h⟩ := Option.bind_eq_some_iff.1 h
  refine ls (call F Try.func36 (R := fun v w => ∃ (x11 : Int), x11 = o_11 ∧ v = .int .i64 x11 ∧ Hp w0 ps (obj_disk_Disk g1_ a1 :: obj_store_Store g0_ g1_ a0 :: fs) w) (args := [pt g0_]) (cap := []) ?_ rfl rfl ?_)
  ·refine enter [pt g0_] 9 Try.func36 fun Q a NP RET NRM F => ?_
   replace NP := np NP
   refine rg ?_
   refine as_ F (v := .int .i64 0) rfl fun a F => ?_
   refine rgend ?_
   refine rg ?_
   refine mv F rfl fun a F => ?_
   refine qw F (r_nc (F.t 3 rfl)) fun a F => ?_
   refine qw F (r_fa (off := 0) (F.t 4 rfl) fa73_0) fun a F => ?_
   obtain ⟨A13, c14, A15, c16, A17, c18, H⟩ := Hp.openO_store_Store (H.f1)
   refine qw F (r_ld (F.t 5 rfl) (cel_cell (o := 0) (H.cell 0 rfl) rfl) one24) fun a F => ?_
   obtain ⟨x19, e20, k_11⟩ := Option.bind_eq_some_iff.1 k_11
   try dsimp only at k_11
   refine ls (call F Try.func76 (disk_Disk_Sectors_ok (H.f1.f1.f2) e20) rfl rfl fun v w hR a F => ?_)
   obtain ⟨rfl, H⟩ := hR
   refine qw F (r_quo (F.t 7 rfl) (F.k (.int .i64 2)) (by decide)) fun a F => ?_
   refine as_ F rfl fun a F => ?_
   refine rgend ?_
   replace F := F.only [2] (l' := [(2, _)]) rfl
   refine wp_ret ?_
   replace H := Hp.closeO_store_Store (x := a0) (H.f2.f2) 0 rfl 1 rfl
   try dsimp only at k_11
   obtain rfl := Option.some.inj k_11
   exact RET _ _ (ret1 F rfl rfl ⟨_, rfl, _, rfl, rfl, H.px1.px0.f1⟩)
  rintro v w ⟨x11, rfl, rfl, H⟩ a F
  try dsimp only at h F H
  refine as_ F rfl fun a F => ?_
  refine rgend ?_
  replace F := F.only [2] (l' := [(2, _)]) rfl
  refine wp_ret ?_
  try dsimp only at h
  obtain rfl := Option.some.inj h
  exact RET _ _ (ret1 F rfl rfl ⟨_, rfl, rfl, H.f1⟩)
 rw [if_neg c10] at h
 rw [Bool.eq_false_iff.2 c10] at F
 refine wp_cond_false (F.ev rfl) ?_
 refine wp_skip ?_
 refine rg ?_
 refine as_ F (v := .int .i64 0) rfl fun a F => ?_
 refine rgend ?_
 refine wp_ret ?_
 try dsimp only at h
 obtain rfl := Option.some.inj h
 exact RET _ _ (ret1 F rfl rfl ⟨_, rfl, rfl, H.f1⟩)
def store_may_f (a0 : List Int) (a1 : List (List Int)) : Option (Bool) :=
 ((disk_New_f 0).bind fun x1 => match x1 with | none => none | some x3 => ((region_Lay_f x3 0 0 1 a0 a1).bind fun (x5, x6) => some ((decide (x5 ≠ 1)))))
theorem store_may_ok {w0 w : World} {ps : List PF} {fs : List SF} {a0 : List Int} {A0_ : Option Addr} {c0_ : Nat} {a1 : List (List Int)} {A1_ : Option Addr} {c1_ : Nat} {r0 : Bool} (H : Hp w0 (rd kByte A0_ c0_ a0 :: rd (kSlice kByte) A1_ c1_ a1 :: ps) fs w) (h : store_may_f a0 a1 = some r0) :
  Calls Try.prog 40 [.slice A0_ a0.length c0_, .slice A1_ a1.length c1_].toArray w fun e w' => ∃ v, e = .returned v ∧ v = .bool r0 ∧ Hp w0 ps fs w' := by
 refine enter [.slice A0_ a0.length c0_, .slice A1_ a1.length c1_] 10 Try.func40 fun Q a NP RET NRM F => ?_
 replace NP := np NP
 unfold store_may_f at h
 refine rg ?_
 refine as_ F (v := .bool false) rfl fun a F => ?_
 refine rgend ?_
 refine rg ?_
 obtain ⟨x1, e2, h⟩ := Option.bind_eq_some_iff.1 h
 try dsimp only at h
 rcases x1 with _ | x3
 ·try dsimp only at h
  refine ls (call F Try.func11 (disk_New_ok (H) e2) rfl rfl fun v w hR a F => ?_)
  obtain ⟨rfl, H⟩ := hR
  iterate 2 refine mv F rfl fun a F => ?_
  cases h
 try dsimp only at h
 refine ls (call F Try.func11 (disk_New_ok (H) e2) rfl rfl fun v w hR a F => ?_)
 obtain ⟨g4, rfl, H⟩ := hR
 iterate 2 refine mv F rfl fun a F => ?_
 obtain ⟨⟨x5, x6⟩, e7, h⟩ := Option.bind_eq_some_iff.1 h
 try dsimp only at h
 refine ls (call F Try.func44 (region_Lay_ok (H.p1.p1) e7) rfl rfl fun v w hR a F => ?_)
 obtain ⟨rfl, H⟩ := hR
 refine qw F (r_ne (F.t 8 rfl) (F.k (.int .i64 1))) fun a F => ?_
 refine as_ F rfl fun a F => ?_
 refine rgend ?_
 replace F := F.only [4] (l' := [(4, _)]) rfl
 refine wp_ret ?_
 try dsimp only at h
 obtain rfl := Option.some.inj h
 exact RET _ _ (ret1 F rfl rfl ⟨_, rfl, rfl, H.px1.px0.fx0⟩)
def store_Store_Begin_b0 (a2 : List (List Int)) : ((List (List Int)) × Int) → Option ((List (List Int)) × Int ⊕ List (List Int))
 | (x58, x61) => (if x61 < (a2.length : Int) then (if 0 ≤ x61 ∧ x61 < (a2.length : Int) then ((slices_Clone_f ((a2.getD (x61 : Int).toNat []))).bind fun x73 => (if (x58.length + 1) * 24 ≤ 140737488355328 then some (.inl ((x58 ++ ([x73])), IntKind.i64.wrap (x61 + 1))) else none)) else none) else some (.inr x58))
def store_Store_Begin_f (a0 : store_Store) (a1 : List Int) (a2 : List (List Int)) (a3 : disk_Disk) : Option (Int × store_Store × disk_Disk) :=
 (if a0.broken = true then some (43, a0, a3) else ((store_may_f a1 a2).bind fun x10 => (if x10 = true then ((((disk_Disk_Sectors_f a3).bind fun x15 => some ((IntKind.i64.wrap (x15.tdiv 2)))) : Option (Int)).bind fun x13 => ((region_Greatest_f a3 0 x13).bind fun x17 => ((((disk_Disk_Sectors_f a3).bind fun x21 => some ((IntKind.i64.wrap (x21.tdiv 2)))) : Option (Int)).bind fun x19 => ((((disk_Disk_Sectors_f a3).bind fun x25 => some ((IntKind.i64.wrap (x25.tdiv 2)))) : Option (Int)).bind fun x23 => ((region_Greatest_f a3 x19 x23).bind fun x27 => (if (max x17 x27) ≥ 281474976710656 then some ((5, (⟨a0.now, a0.has_, a0.from_, a0.begun, decide (5 ≠ 0)⟩ : store_Store), a3)) else ((store_Store_other_f a0 a3).bind fun x30 => ((((disk_Disk_Sectors_f a3).bind fun x40 => some ((IntKind.i64.wrap (x40.tdiv 2)))) : Option (Int)).bind fun x38 => ((region_Lay_f a3 x30 x38 (IntKind.i64.wrap ((max x17 x27) + 1)) a1 a2).bind fun (x42, x43) => (if x42 ≠ 0 then some ((x42, (⟨a0.now, a0.has_, a0.from_, a0.begun, decide (x42 ≠ 0)⟩ : store_Store), x43)) else ((disk_Disk_Sync_f x43).bind fun (x46, x47) => (if x46 ≠ 0 then some ((x46, (⟨a0.now, a0.has_, a0.from_, a0.begun, decide (x46 ≠ 0)⟩ : store_Store), x47)) else ((slices_Clone_f a1).bind fun x50 => ((((lp (store_Store_Begin_b0 a2) ([], 0)).bind fun x62 => some x62) : Option (List (List Int))).bind fun x54 => some ((0, (⟨⟨IntKind.i64.wrap ((max x17 x27) + 1), x50, x54, []⟩, true, x30, true, decide (0 ≠ 0)⟩ : store_Store), x47)))))))))))))))) else some (1, a0, a3))))
theorem store_Store_Begin_ok {w0 w : World} {ps : List PF} {fs : List SF} {a0 : store_Store} {g0_ : Nat} {a1 : List Int} {A1_ : Option Addr} {c1_ : Nat} {a2 : List (List Int)} {A2_ : Option Addr} {c2_ : Nat} {a3 : disk_Disk} {g3_ : Nat} {r0 : Int} {s0 : store_Store} {s3 : disk_Disk} (H : Hp w0 (rd kByte A1_ c1_ a1 :: rd (kSlice kByte) A2_ c2_ a2 :: ps) (obj_store_Store g0_ g3_ a0 :: obj_disk_Disk g3_ a3 :: fs) w) (h : store_Store_Begin_f a0 a1 a2 a3 = some (r0, s0, s3)) :
  Calls Try.prog 21 [pt g0_, .slice A1_ a1.length c1_, .slice A2_ a2.length c2_].toArray w fun e w' => ∃ v, e = .returned v ∧ v = .int .i64 r0 ∧ Hp w0 ps (obj_store_Store g0_ g3_ s0 :: obj_disk_Disk g3_ s3 :: fs) w' := by
 refine enterD [pt g0_, .slice A1_ a1.length c1_, .slice A2_ a2.length c2_] 86 Try.func21 fun Q a NP RET NRM F => ?_
 unfold store_Store_Begin_f at h
 refine rg ?_
 refine ls (lbox F H rfl (cs := [pt g0_]) rfl fun g1 w a H F => ?_)
 refine ls (lal F H ti36 (cs := [.int .i64 0]) rfl fun g2 w a H F => ?_)
 refine rgend ?_
 refine wp_seq ?_
 refine wp_block ?_
 refine rg ?_
 refine qw F (r_ld (F.t 3 rfl) (cel_cell (o := 0) (H.cell 1 rfl) rfl) one27) fun a F => ?_
 refine qw F (r_nc (F.t 12 rfl)) fun a F => ?_
 refine qw F (r_fa (off := 8) (F.t 13 rfl) fa73_5) fun a F => ?_
 obtain ⟨A3, c4, A5, c6, A7, c8, H⟩ := Hp.openO_store_Store (H.f3.f2.f2.f3)
 refine qw F (r_ld (F.t 14 rfl) (cel_cell (o := 8) (H.cell 0 rfl) rfl) one4) fun a F => ?_
 refine as_ F rfl fun a F => ?_
 refine rgend ?_
 replace F := F.only [11, 6, 3, 1, 2] (l' := [(11, _), (6, _), (3, _), (1, _), (2, _)]) rfl
 by_cases c9 : a0.broken = true
 ·rw [if_pos c9] at h
  rw [c9] at F
  refine wp_cond_true (F.ev rfl) ?_
  refine rg ?_
  refine stF F [.int .i64 43] H.f4.f4.f3.f3.f4 rfl rfl sz36 fun w a H F => ?_
  refine rgend ?_
  replace F := F.only [6] (l' := [(6, _)]) rfl
  refine wp_ret ?_
  replace H := Hp.closeO_store_Store (x := a0) (H.f4.f4.f2.f4.f4) 0 rfl 1 rfl
  try dsimp only at h
  obtain ⟨rfl, hx_0⟩ := Prod.mk.inj (Option.some.inj h)
  obtain ⟨rfl, rfl⟩ := Prod.mk.inj hx_0
  exact RET _ _ (bpD (retC1 F rfl rfl (ldv1 (cel_cell (o := 0) (H.cell 1 rfl) rfl) one36) ⟨_, rfl, rfl, H.px3.px2.px1.px0.fx2.fx1⟩))
 rw [if_neg c9] at h
 rw [Bool.eq_false_iff.2 c9] at F
 refine wp_cond_false (F.ev rfl) ?_
 refine rg ?_
 iterate 2 refine mv F rfl fun a F => ?_
 obtain ⟨x10, e11, h⟩ := Option.bind_eq_some_iff.1 h
 try dsimp only at h
 refine ls (call F Try.func40 (store_may_ok (H.p3.p3) e11) rfl rfl fun v w hR a F => ?_)
 obtain ⟨rfl, H⟩ := hR
 refine qw F (r_not (F.t 19 rfl)) fun a F => ?_
 refine as_ F rfl fun a F => ?_
 refine rgend ?_
 replace F := F.only [16, 6, 3, 1, 2] (l' := [(16, _), (6, _), (3, _), (1, _), (2, _)]) rfl
 by_cases c12 : x10 = true
 ·rw [if_pos c12] at h
  rw [c12] at F
  refine wp_cond_false (F.ev rfl) ?_
  refine wp_skip ?_
  refine rg ?_
  refine qw F (r_mf (f' := #[]) (c' := #[pt g2, pt g1]) (by simp) (by rw [List.map_toArray]; exact congrArg _ (F.evs rfl))) fun a F => ?_
  refine ls (ldef F (cap := [pt g2, pt g1]) rfl fun a F => ?_)
  refine rgend ?_
  refine wp_seq ?_
  replace H := H.drew
  have HS := H.fx4.fx1
  refine dr (fun w => Hp w0 (rd kByte A3 c4 a0.now.State :: rd (kSlice kByte) A5 c6 a0.now.Kept :: rd kByte A1_ c1_ a1 :: rd (kSlice kByte) A2_ c2_ a2 :: ps) (cel g0_ [pt g3_, .int .i64 a0.now.Gen, .slice A3 a0.now.State.length c4, .slice A5 a0.now.Kept.length c6, .slice A7 a0.now.More.length c8, .bool a0.has_, .int .i64 a0.from_, .bool a0.begun, .bool a0.broken] 73 :: cel g2 [.int .i64 0] 36 :: cel g1 [pt g0_] 27 :: fs) w) _ (by kernel_rfl) ?_ (n := 18)
  refine dk 0 F rfl NP HS (fun w S => (r_ld (F.t 3 rfl) (cel_cell (o := 0) (S.cell 2 rfl) rfl) one27)) fun a F => ?_
  refine dk 1 F rfl NP HS (fun w S => (r_nc (F.t 22 rfl))) fun a F => ?_
  refine dk 2 F rfl NP HS (fun w S => (r_fa (off := 0) (F.t 23 rfl) fa73_0)) fun a F => ?_
  refine dk 3 F rfl NP HS (fun w S => (r_ld (F.t 24 rfl) (cel_cell (o := 0) (S.cell 0 rfl) rfl) one24)) fun a F => ?_
  refine dk 4 F rfl NP HS (fun w S => (r_ld (F.t 3 rfl) (cel_cell (o := 0) (S.cell 2 rfl) rfl) one27)) fun a F => ?_
  refine dk 7 F rfl NP HS (fun w S => (r_ld (F.t 3 rfl) (cel_cell (o := 0) (S.cell 2 rfl) rfl) one27)) fun a F => ?_
  refine dk 8 F rfl NP HS (fun w S => (r_nc (F.t 29 rfl))) fun a F => ?_
  refine dk 9 F rfl NP HS (fun w S => (r_fa (off := 0) (F.t 30 rfl) fa73_0)) fun a F => ?_
  refine dk 10 F rfl NP HS (fun w S => (r_ld (F.t 31 rfl) (cel_cell (o := 0) (S.cell 0 rfl) rfl) one24)) fun a F => ?_
  refine dk 11 F rfl NP HS (fun w S => (r_ld (F.t 3 rfl) (cel_cell (o := 0) (S.cell 2 rfl) rfl) one27)) fun a F => ?_
  refine dk 13 F rfl NP HS (fun w S => (r_ld (F.t 3 rfl) (cel_cell (o := 0) (S.cell 2 rfl) rfl) one27)) fun a F => ?_
  obtain ⟨o_13, k_13, h⟩ := Option.bind_eq_some_iff.1 h
  refine d1 5 rfl (by kernel_rfl) (call F Try.func36 (R := fun v w => ∃ (x13 : Int), x13 = o_13 ∧ v = .int .i64 x13 ∧ Hp w0 (rd kByte A1_ c1_ a1 :: rd (kSlice kByte) A2_ c2_ a2 :: rd kByte A3 c4 a0.now.State :: rd (kSlice kByte) A5 c6 a0.now.Kept :: ps) (own (kSlice kByte) 29 A7 c8 a0.now.More :: cel g2 [.int .i64 0] 36 :: cel g0_ [pt g3_, .int .i64 a0.now.Gen, .slice A3 a0.now.State.length c4, .slice A5 a0.now.Kept.length c6, .slice A7 a0.now.More.length c8, .bool a0.has_, .int .i64 a0.from_, .bool a0.begun, .bool a0.broken] 73 :: cel g1 [pt g0_] 27 :: obj_disk_Disk g3_ a3 :: fs) w) (args := [pt g0_]) (cap := []) ?_ rfl rfl ?_)
  ·refine enter [pt g0_] 9 Try.func36 fun Q a NP RET NRM F => ?_
   replace NP := np NP
   refine rg ?_
   refine as_ F (v := .int .i64 0) rfl fun a F => ?_
   refine rgend ?_
   refine rg ?_
   refine mv F rfl fun a F => ?_
   refine qw F (r_nc (F.t 3 rfl)) fun a F => ?_
   refine qw F (r_fa (off := 0) (F.t 4 rfl) fa73_0) fun a F => ?_
   refine qw F (r_ld (F.t 5 rfl) (cel_cell (o := 0) (H.cell 0 rfl) rfl) one24) fun a F => ?_
   obtain ⟨x15, e16, k_13⟩ := Option.bind_eq_some_iff.1 k_13
   try dsimp only at k_13
   refine ls (call F Try.func76 (disk_Disk_Sectors_ok (H.f3.f3.f3.f3.f4) e16) rfl rfl fun v w hR a F => ?_)
   obtain ⟨rfl, H⟩ := hR
   refine qw F (r_quo (F.t 7 rfl) (F.k (.int .i64 2)) (by decide)) fun a F => ?_
   refine as_ F rfl fun a F => ?_
   refine rgend ?_
   replace F := F.only [2] (l' := [(2, _)]) rfl
   refine wp_ret ?_
   try dsimp only at k_13
   obtain rfl := Option.some.inj k_13
   exact RET _ _ (ret1 F rfl rfl ⟨_, rfl, _, rfl, rfl, H.p1.p1.p5.p5.px4.px4.px4.px4.f4.f2.f4.f4⟩)
  rintro v w ⟨x13, rfl, rfl, H⟩ a F
  try dsimp only at h F H
  have HS := H.f3.f2.f3.fx4.fx3
  refine kg _ HS (fun w S => S.p1.p1.p5.p5.px4.px4.px4.px4) ?_
  obtain ⟨x17, e18, h⟩ := Option.bind_eq_some_iff.1 h
  try dsimp only at h
  refine d1 6 rfl (by kernel_rfl) (call F Try.func42 (region_Greatest_ok (H.f3.f3.f3.f3.f4) e18) rfl rfl fun v w hR a F => ?_)
  obtain ⟨rfl, H⟩ := hR
  have HS := H.f4.f3.f4.fx4.fx3
  refine kg _ HS (fun w S => S) ?_
  obtain ⟨o_19, k_19, h⟩ := Option.bind_eq_some_iff.1 h
  refine d1 12 rfl (by kernel_rfl) (call F Try.func36 (R := fun v w => ∃ (x19 : Int), x19 = o_19 ∧ v = .int .i64 x19 ∧ Hp w0 (rd kByte A1_ c1_ a1 :: rd (kSlice kByte) A2_ c2_ a2 :: rd kByte A3 c4 a0.now.State :: rd (kSlice kByte) A5 c6 a0.now.Kept :: ps) (own (kSlice kByte) 29 A7 c8 a0.now.More :: cel g2 [.int .i64 0] 36 :: cel g0_ [pt g3_, .int .i64 a0.now.Gen, .slice A3 a0.now.State.length c4, .slice A5 a0.now.Kept.length c6, .slice A7 a0.now.More.length c8, .bool a0.has_, .int .i64 a0.from_, .bool a0.begun, .bool a0.broken] 73 :: cel g1 [pt g0_] 27 :: obj_disk_Disk g3_ a3 :: fs) w) (args := [pt g0_]) (cap := []) ?_ rfl rfl ?_)
  ·refine enter [pt g0_] 9 Try.func36 fun Q a NP RET NRM F => ?_
   replace NP := np NP
   refine rg ?_
   refine as_ F (v := .int .i64 0) rfl fun a F => ?_
   refine rgend ?_
   refine rg ?_
   refine mv F rfl fun a F => ?_
   refine qw F (r_nc (F.t 3 rfl)) fun a F => ?_
   refine qw F (r_fa (off := 0) (F.t 4 rfl) fa73_0) fun a F => ?_
   refine qw F (r_ld (F.t 5 rfl) (cel_cell (o := 0) (H.cell 3 rfl) rfl) one24) fun a F => ?_
   obtain ⟨x21, e22, k_19⟩ := Option.bind_eq_some_iff.1 k_19
   try dsimp only at k_19
   refine ls (call F Try.func76 (disk_Disk_Sectors_ok (H) e22) rfl rfl fun v w hR a F => ?_)
   obtain ⟨rfl, H⟩ := hR
   refine qw F (r_quo (F.t 7 rfl) (F.k (.int .i64 2)) (by decide)) fun a F => ?_
   refine as_ F rfl fun a F => ?_
   refine rgend ?_
   replace F := F.only [2] (l' := [(2, _)]) rfl
   refine wp_ret ?_
   try dsimp only at k_19
   obtain rfl := Option.some.inj k_19
   exact RET _ _ (ret1 F rfl rfl ⟨_, rfl, _, rfl, rfl, H.f4.f4.f4.f4⟩)
  rintro v w ⟨x19, rfl, rfl, H⟩ a F
  try dsimp only at h F H
  have HS := H.f3.f2.f3.fx4.fx3
  refine kg _ HS (fun w S => S) ?_
  obtain ⟨o_23, k_23, h⟩ := Option.bind_eq_some_iff.1 h
  refine d1 14 rfl (by kernel_rfl) (call F Try.func36 (R := fun v w => ∃ (x23 : Int), x23 = o_23 ∧ v = .int .i64 x23 ∧ Hp w0 (rd kByte A1_ c1_ a1 :: rd (kSlice kByte) A2_ c2_ a2 :: rd kByte A3 c4 a0.now.State :: rd (kSlice kByte) A5 c6 a0.now.Kept :: ps) (own (kSlice kByte) 29 A7 c8 a0.now.More :: cel g2 [.int .i64 0] 36 :: cel g0_ [pt g3_, .int .i64 a0.now.Gen, .slice A3 a0.now.State.length c4, .slice A5 a0.now.Kept.length c6, .slice A7 a0.now.More.length c8, .bool a0.has_, .int .i64 a0.from_, .bool a0.begun, .bool a0.broken] 73 :: cel g1 [pt g0_] 27 :: obj_disk_Disk g3_ a3 :: fs) w) (args := [pt g0_]) (cap := []) ?_ rfl rfl ?_)
  ·refine enter [pt g0_] 9 Try.func36 fun Q a NP RET NRM F => ?_
   replace NP := np NP
   refine rg ?_
   refine as_ F (v := .int .i64 0) rfl fun a F => ?_
   refine rgend ?_
   refine rg ?_
   refine mv F rfl fun a F => ?_
   refine qw F (r_nc (F.t 3 rfl)) fun a F => ?_
   refine qw F (r_fa (off := 0) (F.t 4 rfl) fa73_0) fun a F => ?_
   refine qw F (r_ld (F.t 5 rfl) (cel_cell (o := 0) (H.cell 2 rfl) rfl) one24) fun a F => ?_
   obtain ⟨x25, e26, k_23⟩ := Option.bind_eq_some_iff.1 k_23
   try dsimp only at k_23
   refine ls (call F Try.func76 (disk_Disk_Sectors_ok (H.f3.f3.f3.f3.f4) e26) rfl rfl fun v w hR a F => ?_)
   obtain ⟨rfl, H⟩ := hR
   refine qw F (r_quo (F.t 7 rfl) (F.k (.int .i64 2)) (by decide)) fun a F => ?_
   refine as_ F rfl fun a F => ?_
   refine rgend ?_
   replace F := F.only [2] (l' := [(2, _)]) rfl
   refine wp_ret ?_
   try dsimp only at k_23
   obtain rfl := Option.some.inj k_23
   exact RET _ _ (ret1 F rfl rfl ⟨_, rfl, _, rfl, rfl, H.f4.f4.f4.f4⟩)
  rintro v w ⟨x23, rfl, rfl, H⟩ a F
  try dsimp only at h F H
  have HS := H.f3.f2.f3.fx4.fx3
  refine kg _ HS (fun w S => S) ?_
  obtain ⟨x27, e28, h⟩ := Option.bind_eq_some_iff.1 h
  try dsimp only at h
  refine d1 15 rfl (by kernel_rfl) (call F Try.func42 (region_Greatest_ok (H.f3.f3.f3.f3.f4) e28) rfl rfl fun v w hR a F => ?_)
  obtain ⟨rfl, H⟩ := hR
  have HS := H.f4.f3.f4.fx4.fx3
  refine kg _ HS (fun w S => S) ?_
  refine dk 16 F rfl NP HS (fun w S => (r_max (F.t 28 rfl) (F.t 37 rfl))) fun a F => ?_
  refine dk 17 F rfl NP HS (fun w S => (r_as (F.t 38 rfl))) fun a F => ?_
  refine ddone (by kernel_rfl) ?_
  replace F := F.only [7, 6, 3, 1, 2] (l' := [(7, _), (6, _), (3, _), (1, _), (2, _)]) rfl
  refine wp_seq ?_
  refine rg ?_
  refine mv F rfl fun a F => ?_
  refine qw F (r_ge (F.t 39 rfl) (F.k (.int .i64 281474976710656))) fun a F => ?_
  refine rgend ?_
  by_cases c29 : (max x17 x27) ≥ 281474976710656
  ·rw [if_pos c29] at h
   rw [decide_eq_true c29] at F
   refine wp_cond_true (F.ev rfl) ?_
   refine rg ?_
   refine stF F [.int .i64 5] H.f4.f4.f3.f3.f4 rfl rfl sz36 fun w a H F => ?_
   refine rgend ?_
   replace F := F.only [6] (l' := [(6, _)]) rfl
   refine wp_ret ?_
   have FO := F
   refine RET _ _ (retD FO Try.func41 rfl rfl ?_)
   refine inD (n := 7) (Nat.le_of_ble_eq_true rfl) rfl fun Q a NP RET NRM F => ?_
   replace NP : ∀ c a w, ¬ Q (.panic c) a w := fun c a w h => by obtain ⟨v, h, _⟩ := NP c a w h; cases h
   refine wp_region_lit ?_
   refine qw F (r_ld (F.t 1 rfl) (cel_cell (o := 0) (H.cell 4 rfl) rfl) one27) fun a F => ?_
   refine qw F (r_ld (F.t 0 rfl) (cel_cell (o := 0) (H.cell 0 rfl) rfl) one36) fun a F => ?_
   refine qw F (r_ne (F.t 3 rfl) (F.k (.int .i64 0))) fun a F => ?_
   refine qw F (r_nc (F.t 2 rfl)) fun a F => ?_
   refine qw F (r_fa (off := 8) (F.t 5 rfl) fa73_5) fun a F => ?_
   refine sto F [.bool (decide (5 ≠ 0))] [.pointer (some ⟨g3_, 0, none⟩), .int .i64 a0.now.Gen, .slice A3 a0.now.State.length c4, .slice A5 a0.now.Kept.length c6, .slice A7 a0.now.More.length c8, .bool a0.has_, .int .i64 a0.from_, .bool a0.begun, .bool (decide (5 ≠ 0))] H.f4.f3.f3.f3.f4 rfl rfl sz4 fun w a H F => ?_
   refine wpList_nil ?_
   replace F := F.only [] (l' := []) rfl
   replace H := Hp.closeO_store_Store (x := (⟨a0.now, a0.has_, a0.from_, a0.begun, decide (5 ≠ 0)⟩ : store_Store)) (H.f4.f3.f3.f4.f4) 2 rfl 3 rfl
   try dsimp only at h
   obtain ⟨rfl, hx_0⟩ := Prod.mk.inj (Option.some.inj h)
   obtain ⟨rfl, rfl⟩ := Prod.mk.inj hx_0
   exact NRM _ _ (ret0 F rfl ⟨_, rfl, _, resC1 FO rfl rfl (ldv1 (cel_cell (o := 0) (H.cell 1 rfl) rfl) one36), ⟨_, rfl, rfl, H.px3.px2.px1.px0.fx3.fx1⟩⟩)
  rw [if_neg c29] at h
  rw [decide_eq_false c29] at F
  refine wp_cond_false (F.ev rfl) ?_
  refine wp_skip ?_
  refine rg ?_
  refine qw F (r_ld (F.t 3 rfl) (cel_cell (o := 0) (H.cell 4 rfl) rfl) one27) fun a F => ?_
  replace H := Hp.closeO_store_Store (x := a0) (H.f4.f3.f2.f3.f4) 2 rfl 3 rfl
  obtain ⟨x30, e31, h⟩ := Option.bind_eq_some_iff.1 h
  try dsimp only at h
  refine ls (call F Try.func43 (store_Store_other_ok (H) e31) rfl rfl fun v w hR a F => ?_)
  obtain ⟨rfl, H⟩ := hR
  refine as_ F rfl fun a F => ?_
  refine rgend ?_
  replace F := F.only [8, 7, 6, 3, 1, 2] (l' := [(8, _), (7, _), (6, _), (3, _), (1, _), (2, _)]) rfl
  iterate 2 refine wp_seq ?_
  obtain ⟨A32, c33, A34, c35, A36, c37, H⟩ := Hp.openO_store_Store (H)
  replace H := H.drew
  have HS := H.px5.px4.fx2.fx1
  refine dr (fun w => Hp w0 (rd kByte A32 c33 a0.now.State :: rd (kSlice kByte) A34 c35 a0.now.Kept :: rd kByte A1_ c1_ a1 :: rd (kSlice kByte) A2_ c2_ a2 :: ps) (cel g0_ [pt g3_, .int .i64 a0.now.Gen, .slice A32 a0.now.State.length c33, .slice A34 a0.now.Kept.length c35, .slice A36 a0.now.More.length c37, .bool a0.has_, .int .i64 a0.from_, .bool a0.begun, .bool a0.broken] 73 :: cel g2 [.int .i64 0] 36 :: cel g1 [pt g0_] 27 :: fs) w) _ (by kernel_rfl) ?_ (n := 13)
  refine dk 0 F rfl NP HS (fun w S => (r_ld (F.t 3 rfl) (cel_cell (o := 0) (S.cell 2 rfl) rfl) one27)) fun a F => ?_
  refine dk 1 F rfl NP HS (fun w S => (r_nc (F.t 43 rfl))) fun a F => ?_
  refine dk 2 F rfl NP HS (fun w S => (r_fa (off := 0) (F.t 44 rfl) fa73_0)) fun a F => ?_
  refine dk 3 F rfl NP HS (fun w S => (r_ld (F.t 45 rfl) (cel_cell (o := 0) (S.cell 0 rfl) rfl) one24)) fun a F => ?_
  refine dk 4 F rfl NP HS (fun w S => (r_mv (F.t 8 rfl))) fun a F => ?_
  refine dk 5 F rfl NP HS (fun w S => (r_ld (F.t 3 rfl) (cel_cell (o := 0) (S.cell 2 rfl) rfl) one27)) fun a F => ?_
  refine dk 7 F rfl NP HS (fun w S => (r_mv (F.t 7 rfl))) fun a F => ?_
  refine dk 8 F rfl NP HS (fun w S => (r_add (F.t 50 rfl) (F.k (.int .i64 1)))) fun a F => ?_
  refine dk 9 F rfl NP HS (fun w S => (r_mv (F.t 1 rfl))) fun a F => ?_
  refine dk 10 F rfl NP HS (fun w S => (r_mv (F.t 2 rfl))) fun a F => ?_
  obtain ⟨o_38, k_38, h⟩ := Option.bind_eq_some_iff.1 h
  refine d1 6 rfl (by kernel_rfl) (call F Try.func36 (R := fun v w => ∃ (x38 : Int), x38 = o_38 ∧ v = .int .i64 x38 ∧ Hp w0 (rd kByte A1_ c1_ a1 :: rd (kSlice kByte) A2_ c2_ a2 :: rd kByte A32 c33 a0.now.State :: rd (kSlice kByte) A34 c35 a0.now.Kept :: ps) (own (kSlice kByte) 29 A36 c37 a0.now.More :: cel g2 [.int .i64 0] 36 :: cel g0_ [pt g3_, .int .i64 a0.now.Gen, .slice A32 a0.now.State.length c33, .slice A34 a0.now.Kept.length c35, .slice A36 a0.now.More.length c37, .bool a0.has_, .int .i64 a0.from_, .bool a0.begun, .bool a0.broken] 73 :: cel g1 [pt g0_] 27 :: obj_disk_Disk g3_ a3 :: fs) w) (args := [pt g0_]) (cap := []) ?_ rfl rfl ?_)
  ·refine enter [pt g0_] 9 Try.func36 fun Q a NP RET NRM F => ?_
   replace NP := np NP
   refine rg ?_
   refine as_ F (v := .int .i64 0) rfl fun a F => ?_
   refine rgend ?_
   refine rg ?_
   refine mv F rfl fun a F => ?_
   refine qw F (r_nc (F.t 3 rfl)) fun a F => ?_
   refine qw F (r_fa (off := 0) (F.t 4 rfl) fa73_0) fun a F => ?_
   refine qw F (r_ld (F.t 5 rfl) (cel_cell (o := 0) (H.cell 0 rfl) rfl) one24) fun a F => ?_
   obtain ⟨x40, e41, k_38⟩ := Option.bind_eq_some_iff.1 k_38
   try dsimp only at k_38
   refine ls (call F Try.func76 (disk_Disk_Sectors_ok (H.f4.f4.f3.f3.f4) e41) rfl rfl fun v w hR a F => ?_)
   obtain ⟨rfl, H⟩ := hR
   refine qw F (r_quo (F.t 7 rfl) (F.k (.int .i64 2)) (by decide)) fun a F => ?_
   refine as_ F rfl fun a F => ?_
   refine rgend ?_
   replace F := F.only [2] (l' := [(2, _)]) rfl
   refine wp_ret ?_
   try dsimp only at k_38
   obtain rfl := Option.some.inj k_38
   exact RET _ _ (ret1 F rfl rfl ⟨_, rfl, _, rfl, rfl, H.p1.p1.p5.p5.px4.px4.px4.px4.px4.px4.f4.f2.f4.f4⟩)
  rintro v w ⟨x38, rfl, rfl, H⟩ a F
  try dsimp only at h F H
  have HS := H.f3.f2.f3.fx4.fx3
  refine kg _ HS (fun w S => S.p1.p1.p5.p5.px4.px4.px4.px4) ?_
  obtain ⟨⟨x42, x43⟩, e44, h⟩ := Option.bind_eq_some_iff.1 h
  try dsimp only at h
  refine d1 11 rfl (by kernel_rfl) (call F Try.func44 (region_Lay_ok (H.p1.p1.f3.f3.f3.f3.f4) e44) rfl rfl fun v w hR a F => ?_)
  obtain ⟨rfl, H⟩ := hR
  have HS := H.f4.f3.f4.fx4.fx3
  refine kg _ HS (fun w S => S) ?_
  refine dk 12 F rfl NP HS (fun w S => (r_as (F.t 54 rfl))) fun a F => ?_
  refine ddone (by kernel_rfl) ?_
  replace F := F.only [9, 8, 7, 6, 3, 1, 2] (l' := [(9, _), (8, _), (7, _), (6, _), (3, _), (1, _), (2, _)]) rfl
  refine rg ?_
  refine mv F rfl fun a F => ?_
  refine qw F (r_ne (F.t 55 rfl) (F.k (.int .i64 0))) fun a F => ?_
  refine rgend ?_
  by_cases c45 : x42 ≠ 0
  ·rw [if_pos c45] at h
   rw [decide_eq_true c45] at F
   refine wp_cond_true (F.ev rfl) ?_
   refine rg ?_
   refine mv F rfl fun a F => ?_
   refine stF F [.int .i64 x42] H.f4.f4.f3.f3.f4 rfl rfl sz36 fun w a H F => ?_
   refine rgend ?_
   replace F := F.only [6] (l' := [(6, _)]) rfl
   refine wp_ret ?_
   have FO := F
   refine RET _ _ (retD FO Try.func41 rfl rfl ?_)
   refine inD (n := 7) (Nat.le_of_ble_eq_true rfl) rfl fun Q a NP RET NRM F => ?_
   replace NP : ∀ c a w, ¬ Q (.panic c) a w := fun c a w h => by obtain ⟨v, h, _⟩ := NP c a w h; cases h
   refine wp_region_lit ?_
   refine qw F (r_ld (F.t 1 rfl) (cel_cell (o := 0) (H.cell 4 rfl) rfl) one27) fun a F => ?_
   refine qw F (r_ld (F.t 0 rfl) (cel_cell (o := 0) (H.cell 0 rfl) rfl) one36) fun a F => ?_
   refine qw F (r_ne (F.t 3 rfl) (F.k (.int .i64 0))) fun a F => ?_
   refine qw F (r_nc (F.t 2 rfl)) fun a F => ?_
   refine qw F (r_fa (off := 8) (F.t 5 rfl) fa73_5) fun a F => ?_
   refine sto F [.bool (decide (x42 ≠ 0))] [.pointer (some ⟨g3_, 0, none⟩), .int .i64 a0.now.Gen, .slice A32 a0.now.State.length c33, .slice A34 a0.now.Kept.length c35, .slice A36 a0.now.More.length c37, .bool a0.has_, .int .i64 a0.from_, .bool a0.begun, .bool (decide (x42 ≠ 0))] H.f4.f3.f3.f3.f4 rfl rfl sz4 fun w a H F => ?_
   refine wpList_nil ?_
   replace F := F.only [] (l' := []) rfl
   replace H := Hp.closeO_store_Store (x := (⟨a0.now, a0.has_, a0.from_, a0.begun, decide (x42 ≠ 0)⟩ : store_Store)) (H.f4.f3.f3.f4.f4) 2 rfl 3 rfl
   try dsimp only at h
   obtain ⟨rfl, hx_0⟩ := Prod.mk.inj (Option.some.inj h)
   obtain ⟨rfl, rfl⟩ := Prod.mk.inj hx_0
   exact NRM _ _ (ret0 F rfl ⟨_, rfl, _, resC1 FO rfl rfl (ldv1 (cel_cell (o := 0) (H.cell 1 rfl) rfl) one36), ⟨_, rfl, rfl, H.px3.px2.px1.px0.fx3.fx1⟩⟩)
  rw [if_neg c45] at h
  rw [decide_eq_false c45] at F
  refine wp_cond_false (F.ev rfl) ?_
  refine wp_skip ?_
  refine wp_seq ?_
  refine rg ?_
  refine qw F (r_ld (F.t 3 rfl) (cel_cell (o := 0) (H.cell 4 rfl) rfl) one27) fun a F => ?_
  refine qw F (r_nc (F.t 58 rfl)) fun a F => ?_
  refine qw F (r_fa (off := 0) (F.t 59 rfl) fa73_0) fun a F => ?_
  refine qw F (r_ld (F.t 60 rfl) (cel_cell (o := 0) (H.cell 3 rfl) rfl) one24) fun a F => ?_
  obtain ⟨⟨x46, x47⟩, e48, h⟩ := Option.bind_eq_some_iff.1 h
  try dsimp only at h
  refine ls (call F Try.func29 (disk_Disk_Sync_ok (H) e48) rfl rfl fun v w hR a F => ?_)
  obtain ⟨rfl, H⟩ := hR
  refine as_ F rfl fun a F => ?_
  refine rgend ?_
  replace F := F.only [10, 8, 7, 6, 3, 1, 2] (l' := [(10, _), (8, _), (7, _), (6, _), (3, _), (1, _), (2, _)]) rfl
  refine rg ?_
  refine mv F rfl fun a F => ?_
  refine qw F (r_ne (F.t 63 rfl) (F.k (.int .i64 0))) fun a F => ?_
  refine rgend ?_
  by_cases c49 : x46 ≠ 0
  ·rw [if_pos c49] at h
   rw [decide_eq_true c49] at F
   refine wp_cond_true (F.ev rfl) ?_
   refine rg ?_
   refine mv F rfl fun a F => ?_
   refine stF F [.int .i64 x46] H.f4.f4.f3.f3.f4 rfl rfl sz36 fun w a H F => ?_
   refine rgend ?_
   replace F := F.only [6] (l' := [(6, _)]) rfl
   refine wp_ret ?_
   have FO := F
   refine RET _ _ (retD FO Try.func41 rfl rfl ?_)
   refine inD (n := 7) (Nat.le_of_ble_eq_true rfl) rfl fun Q a NP RET NRM F => ?_
   replace NP : ∀ c a w, ¬ Q (.panic c) a w := fun c a w h => by obtain ⟨v, h, _⟩ := NP c a w h; cases h
   refine wp_region_lit ?_
   refine qw F (r_ld (F.t 1 rfl) (cel_cell (o := 0) (H.cell 4 rfl) rfl) one27) fun a F => ?_
   refine qw F (r_ld (F.t 0 rfl) (cel_cell (o := 0) (H.cell 0 rfl) rfl) one36) fun a F => ?_
   refine qw F (r_ne (F.t 3 rfl) (F.k (.int .i64 0))) fun a F => ?_
   refine qw F (r_nc (F.t 2 rfl)) fun a F => ?_
   refine qw F (r_fa (off := 8) (F.t 5 rfl) fa73_5) fun a F => ?_
   refine sto F [.bool (decide (x46 ≠ 0))] [.pointer (some ⟨g3_, 0, none⟩), .int .i64 a0.now.Gen, .slice A32 a0.now.State.length c33, .slice A34 a0.now.Kept.length c35, .slice A36 a0.now.More.length c37, .bool a0.has_, .int .i64 a0.from_, .bool a0.begun, .bool (decide (x46 ≠ 0))] H.f4.f3.f3.f3.f4 rfl rfl sz4 fun w a H F => ?_
   refine wpList_nil ?_
   replace F := F.only [] (l' := []) rfl
   replace H := Hp.closeO_store_Store (x := (⟨a0.now, a0.has_, a0.from_, a0.begun, decide (x46 ≠ 0)⟩ : store_Store)) (H.f4.f3.f3.f4.f4) 2 rfl 3 rfl
   try dsimp only at h
   obtain ⟨rfl, hx_0⟩ := Prod.mk.inj (Option.some.inj h)
   obtain ⟨rfl, rfl⟩ := Prod.mk.inj hx_0
   exact NRM _ _ (ret0 F rfl ⟨_, rfl, _, resC1 FO rfl rfl (ldv1 (cel_cell (o := 0) (H.cell 1 rfl) rfl) one36), ⟨_, rfl, rfl, H.px3.px2.px1.px0.fx3.fx1⟩⟩)
  rw [if_neg c49] at h
  rw [decide_eq_false c49] at F
  refine wp_cond_false (F.ev rfl) ?_
  refine wp_skip ?_
  refine wp_seq ?_
  replace H := H.drew
  have HS := H.fx1.fx0
  refine dr (fun w => Hp w0 (rd kByte A1_ c1_ a1 :: rd (kSlice kByte) A2_ c2_ a2 :: rd kByte A32 c33 a0.now.State :: rd (kSlice kByte) A34 c35 a0.now.Kept :: ps) (cel g2 [.int .i64 0] 36 :: cel g0_ [pt g3_, .int .i64 a0.now.Gen, .slice A32 a0.now.State.length c33, .slice A34 a0.now.Kept.length c35, .slice A36 a0.now.More.length c37, .bool a0.has_, .int .i64 a0.from_, .bool a0.begun, .bool a0.broken] 73 :: cel g1 [pt g0_] 27 :: fs) w) _ (by kernel_rfl) ?_ (n := 11)
  refine dk 0 F rfl NP HS (fun w S => (r_ld (F.t 3 rfl) (cel_cell (o := 0) (S.cell 2 rfl) rfl) one27)) fun a F => ?_
  refine dk 1 F rfl NP HS (fun w S => (r_mv (F.t 7 rfl))) fun a F => ?_
  refine dk 2 F rfl NP HS (fun w S => (r_add (F.t 67 rfl) (F.k (.int .i64 1)))) fun a F => ?_
  refine dk 3 F rfl NP HS (fun w S => (r_mv (F.t 1 rfl))) fun a F => ?_
  refine dk 5 F rfl NP HS (fun w S => (r_mv (F.t 2 rfl))) fun a F => ?_
  obtain ⟨x50, e51, h⟩ := Option.bind_eq_some_iff.1 h
  try dsimp only at h
  refine d1 4 rfl (by kernel_rfl) (call F Try.func39 (slices_Clone_ok (H.p0) e51) rfl rfl fun v w hR a F => ?_)
  obtain ⟨A52, c53, rfl, H⟩ := hR
  have HS := H.fx2.fx1.fx0
  refine kg _ HS (fun w S => S) ?_
  obtain ⟨o_56, k_56, h⟩ := Option.bind_eq_some_iff.1 h
  refine d1 6 rfl (by kernel_rfl) (call F Try.func38 (R := fun v w => ∃ (x54 : List (List Int)), x54 = o_56 ∧ ∃ (A55 : Option Addr) (c56 : Nat), v = .slice A55 x54.length c56 ∧ Hp w0 (rd kByte A1_ c1_ a1 :: rd (kSlice kByte) A2_ c2_ a2 :: rd kByte A32 c33 a0.now.State :: rd (kSlice kByte) A34 c35 a0.now.Kept :: ps) (own (kSlice kByte) 29 A55 c56 x54 :: own kByte 5 A52 c53 x50 :: own (kSlice kByte) 29 A36 c37 a0.now.More :: cel g2 [.int .i64 0] 36 :: cel g0_ [pt g3_, .int .i64 a0.now.Gen, .slice A32 a0.now.State.length c33, .slice A34 a0.now.Kept.length c35, .slice A36 a0.now.More.length c37, .bool a0.has_, .int .i64 a0.from_, .bool a0.begun, .bool a0.broken] 73 :: cel g1 [pt g0_] 27 :: obj_disk_Disk g3_ x47 :: fs) w) (args := [.slice A2_ a2.length c2_]) (cap := []) ?_ rfl rfl ?_)
  ·refine enter [.slice A2_ a2.length c2_] 19 Try.func38 fun Q a NP RET NRM F => ?_
   replace NP := np NP
   refine rg ?_
   refine as_ F (v := .slice none 0 0) rfl fun a F => ?_
   refine rgend ?_
   refine rg ?_
   refine as_ F (v := .slice none 0 0) rfl fun a F => ?_
   refine rgend ?_
   refine wp_seq ?_
   refine rg ?_
   refine mv F rfl fun a F => ?_
   refine qw F (r_len (F.t 6 rfl) Try.underlying30) fun a F => ?_
   refine mv F (v := .int .i64 0) rfl fun a F => ?_
   refine rgend ?_
   replace H := H.nilOwn (kSlice kByte) 29
   obtain ⟨o_64, k_64, k_56⟩ := Option.bind_eq_some_iff.1 k_56
   refine cut (fun a w => ∃ (x62 : List (List Int)), x62 = o_64 ∧ ∃ (A63 : Option Addr) (c64 : Nat), Fr 19 [] [(3, .slice A63 x62.length c64)] a ∧ Hp w0 (rd kByte A1_ c1_ a1 :: rd (kSlice kByte) A2_ c2_ a2 :: rd kByte A32 c33 a0.now.State :: rd (kSlice kByte) A34 c35 a0.now.Kept :: ps) (own (kSlice kByte) 29 A63 c64 x62 :: own kByte 5 A52 c53 x50 :: own (kSlice kByte) 29 A36 c37 a0.now.More :: cel g2 [.int .i64 0] 36 :: cel g0_ [pt g3_, .int .i64 a0.now.Gen, .slice A32 a0.now.State.length c33, .slice A34 a0.now.Kept.length c35, .slice A36 a0.now.More.length c37, .bool a0.has_, .int .i64 a0.from_, .bool a0.begun, .bool a0.broken] 73 :: cel g1 [pt g0_] 27 :: obj_disk_Disk g3_ x47 :: fs) w) (wp_block ?_) ?_
   ·refine wloop (store_Store_Begin_b0 a2) (fun (s : (List (List Int)) × Int) a w => ∃ (A59 : Option Addr) (c60 : Nat), Fr 19 [] [(3, .slice A59 s.1.length c60), (6, .slice A2_ a2.length c2_), (7, .int .i64 (a2.length : Int)), (8, .int .i64 s.2)] a ∧ Hp w0 (rd (kSlice kByte) A2_ c2_ a2 :: rd kByte A1_ c1_ a1 :: rd kByte A32 c33 a0.now.State :: rd (kSlice kByte) A34 c35 a0.now.Kept :: ps) (own (kSlice kByte) 29 A59 c60 s.1 :: own kByte 5 A52 c53 x50 :: own (kSlice kByte) 29 A36 c37 a0.now.More :: cel g2 [.int .i64 0] 36 :: cel g0_ [pt g3_, .int .i64 a0.now.Gen, .slice A32 a0.now.State.length c33, .slice A34 a0.now.Kept.length c35, .slice A36 a0.now.More.length c37, .bool a0.has_, .int .i64 a0.from_, .bool a0.begun, .bool a0.broken] 73 :: cel g1 [pt g0_] 27 :: obj_disk_Disk g3_ x47 :: fs) w) k_64 ⟨none, 0, F.only [3, 6, 7, 8] rfl, H.p3.p3.p2.p4.px4.px4.px4.px4.f2.f6.f6.f6.f6.f6.f6⟩ ?_
    rintro ⟨x58, x61⟩ a w q_64 j_64 u_64 ⟨A59, c60, F, H⟩
    unfold store_Store_Begin_b0 at j_64
    try dsimp only at j_64 F H
    refine rg ?_
    refine qw F (r_lt (F.t 8 rfl) (F.t 7 rfl)) fun a F => ?_
    refine rgend ?_
    refine wp_seq ?_
    by_cases c66 : x61 < (a2.length : Int)
    ·rw [if_pos c66] at j_64
     rw [decide_eq_true c66] at F
     refine wp_cond_true (F.ev rfl) ?_
     refine wp_skip ?_
     refine wp_seq ?_
     refine wp_block ?_
     refine rg ?_
     obtain ⟨c67, j_64⟩ := guardO j_64
     obtain ⟨g68, o69, s70, hr, H⟩ := H.ix [] 0 rfl (F.t 6 rfl) (F.t 8 rfl) Try.underlying30 sz29 (by decide) c67.1 c67.2
     obtain ⟨A71, c72, rfl, H⟩ := H.says_slice 1 rfl
     refine qw F (hr _ _ _ _ _ _) fun a F => ?_
     refine qw F (r_ld (F.t 10 rfl) (range_cell (j := 0) (H.range 1 rfl) rfl) one29) fun a F => ?_
     refine as_ F rfl fun a F => ?_
     refine rgend ?_
     refine wp_region_lit ?_
     iterate 2 refine mv F rfl fun a F => ?_
     obtain ⟨x73, e74, j_64⟩ := Option.bind_eq_some_iff.1 j_64
     try dsimp only at j_64
     refine ls (call F Try.func39 (slices_Clone_ok (H.p0) e74) rfl rfl fun v w hR a F => ?_)
     obtain ⟨A75, c76, rfl, H⟩ := hR
     replace H := (H).freeze
     refine ls (lbs F H (e := 29) (vs := [(0, .slice A75 x73.length c76)]) (cs := [.slice A75 x73.length c76]) rfl (fun w => by kernel_rfl) fun g77 w a H F => ?_)
     obtain ⟨c78, j_64⟩ := guardO j_64
     obtain ⟨A79, c80, _, hr, H⟩ := Hp.appendCelL (kd := (kSlice kByte)) (xs := x58) (ys := [x73]) (H.f7.f7.f7.f7.f7.f7.f6.f7) (F.t 12 rfl) (F.t 15 rfl) Try.underlying30 ti29 rfl (by decide) (by decide) rfl ((SayL.cons (kd := (kSlice kByte)) (c1 := [.slice A75 x73.length c76]) (y := x73) (fun Z hp => ⟨A75, c76, rfl, pat hp 0 rfl⟩) SayL.nil)) c78
     refine qw F (hr _ _ _ _ _) fun a F => ?_
     refine as_ F rfl fun a F => ?_
     refine wpList_nil ?_
     replace F := F.only [3, 6, 7, 8] (l' := [(3, _), (6, _), (7, _), (8, _)]) rfl
     refine wp_region_lit ?_
     refine qw F (r_add (F.t 8 rfl) (F.k (.int .i64 1))) fun a F => ?_
     refine mv F rfl fun a F => ?_
     refine wpList_nil ?_
     try dsimp only at j_64
     obtain rfl := Option.some.inj j_64
     exact ⟨_, rfl, A79, c80, F.only [3, 6, 7, 8] rfl, H.px3.px2.px1.px0⟩
    rw [if_neg c66] at j_64
    rw [decide_eq_false c66] at F
    refine wp_cond_false (F.ev rfl) ?_
    refine wp_exit ?_
    try dsimp only at j_64
    obtain rfl := Option.some.inj j_64
    obtain rfl := u_64 _ rfl
    repeat (with_reducible refine exT ?_)
    with_reducible refine exB ?_
    exact ⟨_, rfl, A59, c60, F.only [3] rfl, H.p3.p3.p2.p4.px4.px4.px4.px4⟩
   rintro a w ⟨x62, rfl, A63, c64, F, H⟩
   try dsimp only at k_56 F H
   refine rg ?_
   refine mv F rfl fun a F => ?_
   refine as_ F rfl fun a F => ?_
   refine rgend ?_
   refine wp_ret ?_
   try dsimp only at k_56
   obtain rfl := Option.some.inj k_56
   exact RET _ _ (ret1 F rfl rfl ⟨_, rfl, _, rfl, A63, c64, rfl, H⟩)
  rintro v w ⟨x54, rfl, A55, c56, rfl, H⟩ a F
  try dsimp only at h F H
  have HS := H.fx6.fx2.fx1.fx0
  refine kg _ HS (fun w S => S) ?_
  refine dk 7 F rfl NP HS (fun w S => (r_bd F (vs := [(0, .int .i64 (IntKind.i64.wrap ((max x17 x27) + 1))), (1, .slice A52 x50.length c53), (2, .slice A55 x54.length c56)]) (cs := [.int .i64 (IntKind.i64.wrap ((max x17 x27) + 1)), .slice A52 x50.length c53, .slice A55 x54.length c56, .slice none 0 0]) rfl (fun w => by kernel_rfl))) fun a F => ?_
  refine dk 8 F rfl NP HS (fun w S => (r_nc (F.t 66 rfl))) fun a F => ?_
  refine dk 9 F rfl NP HS (fun w S => (r_fa (off := 1) (F.t 74 rfl) fa73_1)) fun a F => ?_
  obtain ⟨_, hr, H⟩ := Hp.store (t := 32) (o := 1) (n := 4) (vs := [.int .i64 (IntKind.i64.wrap ((max x17 x27) + 1)), .slice A52 x50.length c53, .slice A55 x54.length c56, .slice none 0 0]) (cs' := [pt g3_, .int .i64 (IntKind.i64.wrap ((max x17 x27) + 1)), .slice A52 x50.length c53, .slice A55 x54.length c56, .slice none 0 0, .bool a0.has_, .int .i64 a0.from_, .bool a0.begun, .bool a0.broken]) (H.f6.f6.f5.f5.f5.f5.f6) (F.t 75 rfl) (F.t 73 rfl) rfl sz32 rfl (Nat.le_of_ble_eq_true rfl) rfl rfl
  refine d1 10 rfl (by kernel_rfl) (qn F (.inl rfl) (hr _ _ _ _) fun a F => ?_)
  have HS := H.fx6.fx3.fx2.fx1
  refine kga (by kernel_rfl) HS ?_
  refine ddone (by kernel_rfl) ?_
  replace F := F.only [8, 6, 3] (l' := [(8, _), (6, _), (3, _)]) rfl
  refine wp_seq ?_
  replace H := H.drew
  have HS := H.fx6.fx3.fx2.fx1.fx0
  refine dr (fun w => Hp w0 (rd kByte A1_ c1_ a1 :: rd (kSlice kByte) A2_ c2_ a2 :: rd kByte A32 c33 a0.now.State :: rd (kSlice kByte) A34 c35 a0.now.Kept :: ps) (cel g2 [.int .i64 0] 36 :: cel g1 [pt g0_] 27 :: fs) w) _ (by kernel_rfl) ?_ (n := 13)
  refine dk 0 F rfl NP HS (fun w S => (r_ld (F.t 3 rfl) (cel_cell (o := 0) (S.cell 1 rfl) rfl) one27)) fun a F => ?_
  refine dk 1 F rfl NP HS (fun w S => (r_ld (F.t 3 rfl) (cel_cell (o := 0) (S.cell 1 rfl) rfl) one27)) fun a F => ?_
  refine dk 2 F rfl NP HS (fun w S => (r_ld (F.t 3 rfl) (cel_cell (o := 0) (S.cell 1 rfl) rfl) one27)) fun a F => ?_
  refine dk 3 F rfl NP HS (fun w S => (r_mv (F.t 8 rfl))) fun a F => ?_
  refine dk 4 F rfl NP HS (fun w S => (r_nc (F.t 76 rfl))) fun a F => ?_
  refine dk 5 F rfl NP HS (fun w S => (r_fa (off := 5) (F.t 80 rfl) fa73_2)) fun a F => ?_
  obtain ⟨_, hr, H⟩ := Hp.store (t := 4) (o := 5) (n := 1) (vs := [.bool true]) (cs' := [pt g3_, .int .i64 (IntKind.i64.wrap ((max x17 x27) + 1)), .slice A52 x50.length c53, .slice A55 x54.length c56, .slice none 0 0, .bool true, .int .i64 a0.from_, .bool a0.begun, .bool a0.broken]) (H) (F.t 81 rfl) (F.k (.bool true)) rfl sz4 rfl (Nat.le_of_ble_eq_true rfl) rfl rfl
  refine d1 6 rfl (by kernel_rfl) (qn F (.inl rfl) (hr _ _ _ _) fun a F => ?_)
  have HS := H.fx6.fx3.fx2.fx1.fx0
  refine kg _ HS (fun w S => S) ?_
  refine dk 7 F rfl NP HS (fun w S => (r_nc (F.t 77 rfl))) fun a F => ?_
  refine dk 8 F rfl NP HS (fun w S => (r_fa (off := 7) (F.t 82 rfl) fa73_4)) fun a F => ?_
  obtain ⟨_, hr, H⟩ := Hp.store (t := 4) (o := 7) (n := 1) (vs := [.bool true]) (cs' := [pt g3_, .int .i64 (IntKind.i64.wrap ((max x17 x27) + 1)), .slice A52 x50.length c53, .slice A55 x54.length c56, .slice none 0 0, .bool true, .int .i64 a0.from_, .bool true, .bool a0.broken]) (H) (F.t 83 rfl) (F.k (.bool true)) rfl sz4 rfl (Nat.le_of_ble_eq_true rfl) rfl rfl
  refine d1 9 rfl (by kernel_rfl) (qn F (.inl rfl) (hr _ _ _ _) fun a F => ?_)
  have HS := H.fx6.fx3.fx2.fx1.fx0
  refine kg _ HS (fun w S => S) ?_
  refine dk 10 F rfl NP HS (fun w S => (r_nc (F.t 78 rfl))) fun a F => ?_
  refine dk 11 F rfl NP HS (fun w S => (r_fa (off := 6) (F.t 84 rfl) fa73_3)) fun a F => ?_
  obtain ⟨_, hr, H⟩ := Hp.store (t := 3) (o := 6) (n := 1) (vs := [.int .i64 x30]) (cs' := [pt g3_, .int .i64 (IntKind.i64.wrap ((max x17 x27) + 1)), .slice A52 x50.length c53, .slice A55 x54.length c56, .slice none 0 0, .bool true, .int .i64 x30, .bool true, .bool a0.broken]) (H) (F.t 85 rfl) (F.t 79 rfl) rfl sz3 rfl (Nat.le_of_ble_eq_true rfl) rfl rfl
  refine d1 12 rfl (by kernel_rfl) (qn F (.inl rfl) (hr _ _ _ _) fun a F => ?_)
  have HS := H.fx6.fx3.fx2.fx1.fx0
  refine kg _ HS (fun w S => S) ?_
  refine ddone (by kernel_rfl) ?_
  replace F := F.only [6] (l' := [(6, _)]) rfl
  refine rg ?_
  refine stF F [.int .i64 0] H.f6.f6.f5.f5.f5.f5.f6 rfl rfl sz36 fun w a H F => ?_
  refine rgend ?_
  refine wp_ret ?_
  have FO := F
  refine RET _ _ (retD FO Try.func41 rfl rfl ?_)
  refine inD (n := 7) (Nat.le_of_ble_eq_true rfl) rfl fun Q a NP RET NRM F => ?_
  replace NP : ∀ c a w, ¬ Q (.panic c) a w := fun c a w h => by obtain ⟨v, h, _⟩ := NP c a w h; cases h
  refine wp_region_lit ?_
  refine qw F (r_ld (F.t 1 rfl) (cel_cell (o := 0) (H.cell 5 rfl) rfl) one27) fun a F => ?_
  refine qw F (r_ld (F.t 0 rfl) (cel_cell (o := 0) (H.cell 0 rfl) rfl) one36) fun a F => ?_
  refine qw F (r_ne (F.t 3 rfl) (F.k (.int .i64 0))) fun a F => ?_
  refine qw F (r_nc (F.t 2 rfl)) fun a F => ?_
  refine qw F (r_fa (off := 8) (F.t 5 rfl) fa73_5) fun a F => ?_
  refine sto F [.bool (decide (0 ≠ 0))] [.pointer (some ⟨g3_, 0, none⟩), .int .i64 (IntKind.i64.wrap ((max x17 x27) + 1)), .slice A52 x50.length c53, .slice A55 x54.length c56, .slice none 0 0, .bool true, .int .i64 x30, .bool true, .bool (decide (0 ≠ 0))] H.f6.f6.f6.f6.f6.f5.f6 rfl rfl sz4 fun w a H F => ?_
  refine wpList_nil ?_
  replace F := F.only [] (l' := []) rfl
  replace H := (H.f6.f6.f6.f5.f5.f5.f6).freeze
  replace H := (H.f5.f5.f5.f4.f4.f5).freeze
  replace H := H.nilOwn (kSlice kByte) 29
  replace H := Hp.closeO_store_Store (x := (⟨⟨IntKind.i64.wrap ((max x17 x27) + 1), x50, x54, []⟩, true, x30, true, decide (0 ≠ 0)⟩ : store_Store)) (H.f5.f5.f5.f5.f4.f5) 1 rfl 0 rfl
  try dsimp only at h
  obtain ⟨rfl, hx_0⟩ := Prod.mk.inj (Option.some.inj h)
  obtain ⟨rfl, rfl⟩ := Prod.mk.inj hx_0
  exact NRM _ _ (ret0 F rfl ⟨_, rfl, _, resC1 FO rfl rfl (ldv1 (cel_cell (o := 0) (H.cell 1 rfl) rfl) one36), ⟨_, rfl, rfl, H.px5.px4.px3.px2.px1.px0.fx3.fx2.fx1⟩⟩)
 rw [if_neg c12] at h
 rw [Bool.eq_false_iff.2 c12] at F
 refine wp_cond_true (F.ev rfl) ?_
 refine rg ?_
 refine stF F [.int .i64 1] H.f4.f4.f3.f3.f4 rfl rfl sz36 fun w a H F => ?_
 refine rgend ?_
 replace F := F.only [6] (l' := [(6, _)]) rfl
 refine wp_ret ?_
 replace H := Hp.closeO_store_Store (x := a0) (H.f4.f4.f2.f4.f4) 0 rfl 1 rfl
 try dsimp only at h
 obtain ⟨rfl, hx_0⟩ := Prod.mk.inj (Option.some.inj h)
 obtain ⟨rfl, rfl⟩ := Prod.mk.inj hx_0
 exact RET _ _ (bpD (retC1 F rfl rfl (ldv1 (cel_cell (o := 0) (H.cell 1 rfl) rfl) one36) ⟨_, rfl, rfl, H.px3.px2.px1.px0.fx2.fx1⟩))
def store_Store_Append_f (a0 : store_Store) (a1 : List Int) (a2 : disk_Disk) : Option (Int × store_Store × disk_Disk) :=
 (((if a0.broken = true then some (43, a2, a0) else (if a0.begun = true then ((((((disk_Disk_Sectors_f a2).bind fun x21 => some ((IntKind.i64.wrap (x21.tdiv 2)))) : Option (Int)).bind fun x19 => ((region_Put_f a2 a0.from_ x19 a0.now a1).bind fun (x23, x24) => (((if x23 = 0 then ((slices_Clone_f a1).bind fun x29 => (if (a0.now.More.length + 1) * 24 ≤ 140737488355328 then some (((⟨⟨a0.now.Gen, a0.now.State, a0.now.Kept, (a0.now.More ++ ([x29]))⟩, a0.has_, a0.from_, a0.begun, a0.broken⟩ : store_Store))) else none)) else some a0) : Option (store_Store)).bind fun x26 => some (x23, x24, x26)))) : Option (Int × disk_Disk × store_Store)).bind fun (x15, x16, x17) => some (x15, x16, x17)) else some (43, a2, a0))) : Option (Int × disk_Disk × store_Store)).bind fun (x3, x4, x5) => some (x3, x5, x4))
theorem store_Store_Append_ok {w0 w : World} {ps : List PF} {fs : List SF} {a0 : store_Store} {g0_ : Nat} {a1 : List Int} {A1_ : Option Addr} {c1_ : Nat} {a2 : disk_Disk} {g2_ : Nat} {r0 : Int} {s0 : store_Store} {s2 : disk_Disk} (H : Hp w0 (rd kByte A1_ c1_ a1 :: ps) (obj_store_Store g0_ g2_ a0 :: obj_disk_Disk g2_ a2 :: fs) w) (h : store_Store_Append_f a0 a1 a2 = some (r0, s0, s2)) :
  Calls Try.prog 22 [pt g0_, .slice A1_ a1.length c1_].toArray w fun e w' => ∃ v, e = .returned v ∧ v = .int .i64 r0 ∧ Hp w0 ps (obj_store_Store g0_ g2_ s0 :: obj_disk_Disk g2_ s2 :: fs) w' := by
 refine enter [pt g0_, .slice A1_ a1.length c1_] 8 Try.func22 fun Q a NP RET NRM F => ?_
 replace NP := np NP
 unfold store_Store_Append_f at h
 refine rg ?_
 refine ls (lbox F H rfl (cs := [pt g0_]) rfl fun g1 w a H F => ?_)
 refine ls (lbox F H rfl (cs := [.slice A1_ a1.length c1_]) rfl fun g2 w a H F => ?_)
 refine as_ F (v := .int .i64 0) rfl fun a F => ?_
 refine rgend ?_
 refine rg ?_
 refine qw F (r_ld (F.t 2 rfl) (cel_cell (o := 0) (H.cell 1 rfl) rfl) one27) fun a F => ?_
 refine qw F (r_mf (f' := #[]) (c' := #[pt g1, pt g2]) (by simp) (by rw [List.map_toArray]; exact congrArg _ (F.evs rfl))) fun a F => ?_
 obtain ⟨o_5, k_5, h⟩ := Option.bind_eq_some_iff.1 h
 refine ls (call F Try.func45 (R := fun v w => ∃ (x3 : Int) (x4 : disk_Disk) (x5 : store_Store), (x3, x4, x5) = o_5 ∧ v = .int .i64 x3 ∧ Hp w0 (rd kByte A1_ c1_ a1 :: ps) (obj_disk_Disk g2_ x4 :: cel g2 [.slice A1_ a1.length c1_] 29 :: obj_store_Store g0_ g2_ x5 :: cel g1 [pt g0_] 27 :: fs) w) (args := [pt g0_, .func (.func 46) #[] #[pt g1, pt g2]]) (cap := []) ?_ rfl rfl ?_)
 ·refine enter [pt g0_, .func (.func 46) #[] #[pt g1, pt g2]] 18 Try.func45 fun Q a NP RET NRM F => ?_
  replace NP := np NP
  refine rg ?_
  refine as_ F (v := .int .i64 0) rfl fun a F => ?_
  refine rgend ?_
  refine wp_seq ?_
  refine rg ?_
  refine mv F rfl fun a F => ?_
  refine qw F (r_nc (F.t 5 rfl)) fun a F => ?_
  refine qw F (r_fa (off := 8) (F.t 6 rfl) fa73_5) fun a F => ?_
  obtain ⟨A7, c8, A9, c10, A11, c12, H⟩ := Hp.openO_store_Store (H.f3.f2.f2.f3)
  refine qw F (r_ld (F.t 7 rfl) (cel_cell (o := 8) (H.cell 0 rfl) rfl) one4) fun a F => ?_
  refine mv F rfl fun a F => ?_
  by_cases c13 : a0.broken = true
  ·rw [if_pos c13] at k_5
   rw [c13] at F
   iterate 5 refine of_ F fun a F => ?_
   refine qw F (r_pickT (F.t 9 rfl) (F.k (.bool true))) fun a F => ?_
   refine rgend ?_
   replace F := F.only [15, 1] (l' := [(15, _), (1, _)]) rfl
   refine wp_cond_true (F.ev rfl) ?_
   refine rg ?_
   refine as_ F (v := .int .i64 43) rfl fun a F => ?_
   refine rgend ?_
   refine wp_ret ?_
   replace H := Hp.closeO_store_Store (x := a0) (H) 0 rfl 1 rfl
   try dsimp only at k_5
   obtain rfl := Option.some.inj k_5
   exact RET _ _ (ret1 F rfl rfl ⟨_, rfl, _, _, _, rfl, rfl, H.px1.px0.f2.f1.f2.f3⟩)
  rw [if_neg c13] at k_5
  rw [Bool.eq_false_iff.2 c13] at F
  refine mv F rfl fun a F => ?_
  refine qw F (r_nc (F.t 10 rfl)) fun a F => ?_
  refine qw F (r_fa (off := 7) (F.t 11 rfl) fa73_4) fun a F => ?_
  refine qw F (r_ld (F.t 12 rfl) (cel_cell (o := 7) (H.cell 0 rfl) rfl) one4) fun a F => ?_
  refine qw F (r_not (F.t 13 rfl)) fun a F => ?_
  refine qw F (r_pickF (F.t 9 rfl) (F.t 14 rfl)) fun a F => ?_
  refine rgend ?_
  replace F := F.only [15, 1] (l' := [(15, _), (1, _)]) rfl
  by_cases c14 : a0.begun = true
  ·rw [if_pos c14] at k_5
   rw [c14] at F
   refine wp_cond_false (F.ev rfl) ?_
   refine wp_skip ?_
   refine rg ?_
   refine mv F rfl fun a F => ?_
   obtain ⟨o_17, k_17, k_5⟩ := Option.bind_eq_some_iff.1 k_5
   refine ls (call F Try.func46 (R := fun v w => ∃ (x15 : Int) (x16 : disk_Disk) (x17 : store_Store), (x15, x16, x17) = o_17 ∧ v = .int .i64 x15 ∧ Hp w0 (rd kByte A1_ c1_ a1 :: ps) (obj_disk_Disk g2_ x16 :: cel g2 [.slice A1_ a1.length c1_] 29 :: obj_store_Store g0_ g2_ x17 :: cel g1 [pt g0_] 27 :: fs) w) (args := [pt g1, pt g2]) (cap := [pt g1, pt g2]) ?_ rfl rfl ?_)
   ·refine enter [pt g1, pt g2] 36 Try.func46 fun Q a NP RET NRM F => ?_
    replace NP := np NP
    refine rg ?_
    refine as_ F (v := .int .i64 0) rfl fun a F => ?_
    refine rgend ?_
    refine wp_seq ?_
    replace H := H.drew
    have HS := H.fx4.fx1
    refine dr (fun w => Hp w0 (rd kByte A7 c8 a0.now.State :: rd (kSlice kByte) A9 c10 a0.now.Kept :: rd kByte A1_ c1_ a1 :: ps) (cel g0_ [pt g2_, .int .i64 a0.now.Gen, .slice A7 a0.now.State.length c8, .slice A9 a0.now.Kept.length c10, .slice A11 a0.now.More.length c12, .bool a0.has_, .int .i64 a0.from_, .bool a0.begun, .bool a0.broken] 73 :: cel g2 [.slice A1_ a1.length c1_] 29 :: cel g1 [pt g0_] 27 :: fs) w) _ (by kernel_rfl) ?_ (n := 17)
    refine dk 0 F rfl NP HS (fun w S => (r_ld (F.t 0 rfl) (cel_cell (o := 0) (S.cell 2 rfl) rfl) one27)) fun a F => ?_
    refine dk 1 F rfl NP HS (fun w S => (r_nc (F.t 4 rfl))) fun a F => ?_
    refine dk 2 F rfl NP HS (fun w S => (r_fa (off := 0) (F.t 5 rfl) fa73_0)) fun a F => ?_
    refine dk 3 F rfl NP HS (fun w S => (r_ld (F.t 6 rfl) (cel_cell (o := 0) (S.cell 0 rfl) rfl) one24)) fun a F => ?_
    refine dk 4 F rfl NP HS (fun w S => (r_ld (F.t 0 rfl) (cel_cell (o := 0) (S.cell 2 rfl) rfl) one27)) fun a F => ?_
    refine dk 5 F rfl NP HS (fun w S => (r_nc (F.t 8 rfl))) fun a F => ?_
    refine dk 6 F rfl NP HS (fun w S => (r_fa (off := 6) (F.t 9 rfl) fa73_3)) fun a F => ?_
    refine dk 7 F rfl NP HS (fun w S => (r_ld (F.t 10 rfl) (cel_cell (o := 6) (S.cell 0 rfl) rfl) one3)) fun a F => ?_
    refine dk 8 F rfl NP HS (fun w S => (r_ld (F.t 0 rfl) (cel_cell (o := 0) (S.cell 2 rfl) rfl) one27)) fun a F => ?_
    refine dk 10 F rfl NP HS (fun w S => (r_ld (F.t 0 rfl) (cel_cell (o := 0) (S.cell 2 rfl) rfl) one27)) fun a F => ?_
    refine dk 11 F rfl NP HS (fun w S => (r_nc (F.t 14 rfl))) fun a F => ?_
    refine dk 12 F rfl NP HS (fun w S => (r_fa (off := 1) (F.t 15 rfl) fa73_1)) fun a F => ?_
    refine dk 13 F rfl NP HS (fun w S => (r_ldA (F.t 16 rfl) (cel_range (o := 1) (n := 4) (vs := [.int .i64 a0.now.Gen, .slice A7 a0.now.State.length c8, .slice A9 a0.now.Kept.length c10, .slice A11 a0.now.More.length c12]) (S.cell 0 rfl) rfl) agg32 rfl)) fun a F => ?_
    refine dk 14 F rfl NP HS (fun w S => (r_ld (F.t 1 rfl) (cel_cell (o := 0) (S.cell 1 rfl) rfl) one29)) fun a F => ?_
    obtain ⟨o_19, k_19, k_17⟩ := Option.bind_eq_some_iff.1 k_17
    refine d1 9 rfl (by kernel_rfl) (call F Try.func36 (R := fun v w => ∃ (x19 : Int), x19 = o_19 ∧ v = .int .i64 x19 ∧ Hp w0 (rd kByte A7 c8 a0.now.State :: rd (kSlice kByte) A9 c10 a0.now.Kept :: rd kByte A1_ c1_ a1 :: ps) (own (kSlice kByte) 29 A11 c12 a0.now.More :: obj_disk_Disk g2_ a2 :: cel g2 [.slice A1_ a1.length c1_] 29 :: cel g0_ [pt g2_, .int .i64 a0.now.Gen, .slice A7 a0.now.State.length c8, .slice A9 a0.now.Kept.length c10, .slice A11 a0.now.More.length c12, .bool a0.has_, .int .i64 a0.from_, .bool a0.begun, .bool a0.broken] 73 :: cel g1 [pt g0_] 27 :: fs) w) (args := [pt g0_]) (cap := []) ?_ rfl rfl ?_)
    ·refine enter [pt g0_] 9 Try.func36 fun Q a NP RET NRM F => ?_
     replace NP := np NP
     refine rg ?_
     refine as_ F (v := .int .i64 0) rfl fun a F => ?_
     refine rgend ?_
     refine rg ?_
     refine mv F rfl fun a F => ?_
     refine qw F (r_nc (F.t 3 rfl)) fun a F => ?_
     refine qw F (r_fa (off := 0) (F.t 4 rfl) fa73_0) fun a F => ?_
     refine qw F (r_ld (F.t 5 rfl) (cel_cell (o := 0) (H.cell 0 rfl) rfl) one24) fun a F => ?_
     obtain ⟨x21, e22, k_19⟩ := Option.bind_eq_some_iff.1 k_19
     try dsimp only at k_19
     refine ls (call F Try.func76 (disk_Disk_Sectors_ok (H.f3.f3.f3.f3.f4) e22) rfl rfl fun v w hR a F => ?_)
     obtain ⟨rfl, H⟩ := hR
     refine qw F (r_quo (F.t 7 rfl) (F.k (.int .i64 2)) (by decide)) fun a F => ?_
     refine as_ F rfl fun a F => ?_
     refine rgend ?_
     replace F := F.only [2] (l' := [(2, _)]) rfl
     refine wp_ret ?_
     try dsimp only at k_19
     obtain rfl := Option.some.inj k_19
     exact RET _ _ (ret1 F rfl rfl ⟨_, rfl, _, rfl, rfl, H.f4.f2.f4.f3.f4⟩)
    rintro v w ⟨x19, rfl, rfl, H⟩ a F
    try dsimp only at k_17 F H
    have HS := H.f4.f3.f4.fx4.fx3
    refine kg _ HS (fun w S => S) ?_
    obtain ⟨⟨x23, x24⟩, e25, k_17⟩ := Option.bind_eq_some_iff.1 k_17
    try dsimp only at k_17
    refine d1 15 rfl (by kernel_rfl) (call F Try.func47 (region_Put_ok (a3 := a0.now) (H.p2.f4.f4.f4.f3.f4) e25) rfl rfl fun v w hR a F => ?_)
    obtain ⟨rfl, H⟩ := hR
    have HS := H.f4.f3.f4.fx4.fx3
    refine kg _ HS (fun w S => S) ?_
    refine dk 16 F rfl NP HS (fun w S => (r_as (F.t 19 rfl))) fun a F => ?_
    refine ddone (by kernel_rfl) ?_
    replace F := F.only [3, 0, 1] (l' := [(3, _), (0, _), (1, _)]) rfl
    refine wp_seq ?_
    refine rg ?_
    refine mv F rfl fun a F => ?_
    refine qw F (r_eq (F.t 20 rfl) (F.k (.int .i64 0))) fun a F => ?_
    refine rgend ?_
    obtain ⟨o_26, k_26, k_17⟩ := Option.bind_eq_some_iff.1 k_17
    refine cut (fun a w => ∃ (x26 : store_Store), x26 = o_26 ∧ Fr 36 [] [(3, .int .i64 x23)] a ∧ Hp w0 (rd kByte A1_ c1_ a1 :: ps) (obj_disk_Disk g2_ x24 :: cel g2 [.slice A1_ a1.length c1_] 29 :: obj_store_Store g0_ g2_ x26 :: cel g1 [pt g0_] 27 :: fs) w) ?_ ?_
    ·skip
     by_cases c28 : x23 = 0
     ·rw [if_pos c28] at k_26
      rw [decide_eq_true c28] at F
      refine wp_cond_true (F.ev rfl) ?_
      replace H := H.drew
      have HS := H.fx1.fx0
      refine dr (fun w => Hp w0 (rd kByte A7 c8 a0.now.State :: rd (kSlice kByte) A9 c10 a0.now.Kept :: rd kByte A1_ c1_ a1 :: ps) (cel g2 [.slice A1_ a1.length c1_] 29 :: cel g0_ [pt g2_, .int .i64 a0.now.Gen, .slice A7 a0.now.State.length c8, .slice A9 a0.now.Kept.length c10, .slice A11 a0.now.More.length c12, .bool a0.has_, .int .i64 a0.from_, .bool a0.begun, .bool a0.broken] 73 :: cel g1 [pt g0_] 27 :: fs) w) _ (by kernel_rfl) ?_ (n := 14)
      refine dk 0 F rfl NP HS (fun w S => (r_ld (F.t 0 rfl) (cel_cell (o := 0) (S.cell 2 rfl) rfl) one27)) fun a F => ?_
      refine dk 1 F rfl NP HS (fun w S => (r_ld (F.t 0 rfl) (cel_cell (o := 0) (S.cell 2 rfl) rfl) one27)) fun a F => ?_
      refine dk 2 F rfl NP HS (fun w S => (r_nc (F.t 23 rfl))) fun a F => ?_
      refine dk 3 F rfl NP HS (fun w S => (r_fa (off := 1) (F.t 24 rfl) fa73_1)) fun a F => ?_
      refine dk 4 F rfl NP HS (fun w S => (r_fa (off := 3) (F.t 25 rfl) fa32_3)) fun a F => ?_
      refine dk 5 F rfl NP HS (fun w S => (r_ld (F.t 26 rfl) (cel_cell (o := 4) (S.cell 1 rfl) rfl) one30)) fun a F => ?_
      refine dk 6 F rfl NP HS (fun w S => (r_ld (F.t 1 rfl) (cel_cell (o := 0) (S.cell 0 rfl) rfl) one29)) fun a F => ?_
      obtain ⟨x29, e30, k_26⟩ := Option.bind_eq_some_iff.1 k_26
      try dsimp only at k_26
      refine d1 7 rfl (by kernel_rfl) (call F Try.func39 (slices_Clone_ok (H.p2) e30) rfl rfl fun v w hR a F => ?_)
      obtain ⟨A31, c32, rfl, H⟩ := hR
      have HS := H.fx2.fx1.fx0
      refine kg _ HS (fun w S => S) ?_
      replace H := (H).freeze
      have HS := H.fx1.fx0
      refine dmoreH HS (fun w S => S.px0) ?_
      refine d1 8 rfl (by kernel_rfl) (lbs F H (e := 29) (vs := [(0, .slice A31 x29.length c32)]) (cs := [.slice A31 x29.length c32]) rfl (fun w => by kernel_rfl) fun g33 w a H F => ?_)
      have HS := H.fx2.fx1.fx0
      refine kg _ HS (fun w S => S) ?_
      obtain ⟨c34, k_26⟩ := guardO k_26
      obtain ⟨A35, c36, _, hr, H⟩ := Hp.appendCelL (kd := (kSlice kByte)) (xs := a0.now.More) (ys := [x29]) (H.f5.f5.f5.f4.f4.f5) (F.t 27 rfl) (F.t 30 rfl) Try.underlying30 ti29 rfl (by decide) (by decide) rfl ((SayL.cons (kd := (kSlice kByte)) (c1 := [.slice A31 x29.length c32]) (y := x29) (fun Z hp => ⟨A31, c32, rfl, pat hp 0 rfl⟩) SayL.nil)) c34
      refine d1 9 rfl (by kernel_rfl) (qv F (hr _ _ _ _ _) fun a F => ?_)
      have HS := H.fx1.fx0
      refine kg _ HS (fun w S => S) ?_
      refine dk 10 F rfl NP HS (fun w S => (r_nc (F.t 22 rfl))) fun a F => ?_
      refine dk 11 F rfl NP HS (fun w S => (r_fa (off := 1) (F.t 32 rfl) fa73_1)) fun a F => ?_
      refine dk 12 F rfl NP HS (fun w S => (r_fa (off := 3) (F.t 33 rfl) fa32_3)) fun a F => ?_
      obtain ⟨_, hr, H⟩ := Hp.store (t := 30) (o := 4) (n := 1) (vs := [.slice A35 ((a0.now.More ++ ([x29]))).length c36]) (cs' := [pt g2_, .int .i64 a0.now.Gen, .slice A7 a0.now.State.length c8, .slice A9 a0.now.Kept.length c10, .slice A35 ((a0.now.More ++ ([x29]))).length c36, .bool a0.has_, .int .i64 a0.from_, .bool a0.begun, .bool a0.broken]) (H.f4.f3.f3.f3.f4) (F.t 34 rfl) (F.t 31 rfl) rfl sz30 rfl (Nat.le_of_ble_eq_true rfl) rfl rfl
      refine d1 13 rfl (by kernel_rfl) (qn F (.inl rfl) (hr _ _ _ _) fun a F => ?_)
      have HS := H.fx2.fx1
      refine kga (by kernel_rfl) HS ?_
      refine ddone (by kernel_rfl) ?_
      replace F := F.only [3] (l' := [(3, _)]) rfl
      replace H := Hp.closeO_store_Store (x := (⟨⟨a0.now.Gen, a0.now.State, a0.now.Kept, (a0.now.More ++ ([x29]))⟩, a0.has_, a0.from_, a0.begun, a0.broken⟩ : store_Store)) (H) 1 rfl 2 rfl
      try dsimp only at k_26
      obtain rfl := Option.some.inj k_26
      exact ⟨_, rfl, F.only [3] rfl, H.px2.px1.px0.f3.f1.f3.f3⟩
     rw [if_neg c28] at k_26
     rw [decide_eq_false c28] at F
     refine wp_cond_false (F.ev rfl) ?_
     refine wp_skip ?_
     replace H := Hp.closeO_store_Store (x := a0) (H.f4.f3.f2.f3.f4) 0 rfl 1 rfl
     try dsimp only at k_26
     obtain rfl := Option.some.inj k_26
     exact ⟨_, rfl, F.only [3] rfl, H.px1.px0.f3.f1.f3.f3⟩
    rintro a w ⟨x26, rfl, F, H⟩
    try dsimp only at k_17 F H
    refine rg ?_
    refine mv F rfl fun a F => ?_
    refine as_ F rfl fun a F => ?_
    refine rgend ?_
    refine wp_ret ?_
    try dsimp only at k_17
    obtain rfl := Option.some.inj k_17
    exact RET _ _ (ret1 F rfl rfl ⟨_, rfl, _, _, _, rfl, rfl, H⟩)
   rintro v w ⟨x15, x16, x17, rfl, rfl, H⟩ a F
   try dsimp only at k_5 F H
   refine as_ F rfl fun a F => ?_
   refine rgend ?_
   replace F := F.only [4] (l' := [(4, _)]) rfl
   refine wp_ret ?_
   try dsimp only at k_5
   obtain rfl := Option.some.inj k_5
   exact RET _ _ (ret1 F rfl rfl ⟨_, rfl, _, _, _, rfl, rfl, H⟩)
  rw [if_neg c14] at k_5
  rw [Bool.eq_false_iff.2 c14] at F
  refine wp_cond_true (F.ev rfl) ?_
  refine rg ?_
  refine as_ F (v := .int .i64 43) rfl fun a F => ?_
  refine rgend ?_
  refine wp_ret ?_
  replace H := Hp.closeO_store_Store (x := a0) (H) 0 rfl 1 rfl
  try dsimp only at k_5
  obtain rfl := Option.some.inj k_5
  exact RET _ _ (ret1 F rfl rfl ⟨_, rfl, _, _, _, rfl, rfl, H.px1.px0.f2.f1.f2.f3⟩)
 rintro v w ⟨x3, x4, x5, rfl, rfl, H⟩ a F
 try dsimp only at h F H
 refine as_ F rfl fun a F => ?_
 refine rgend ?_
 replace F := F.only [4] (l' := [(4, _)]) rfl
 refine wp_ret ?_
 try dsimp only at h
 obtain ⟨rfl, hx_0⟩ := Prod.mk.inj (Option.some.inj h)
 obtain ⟨rfl, rfl⟩ := Prod.mk.inj hx_0
 exact RET _ _ (ret1 F rfl rfl ⟨_, rfl, rfl, H.px0.f2.fx3.fx2⟩)
def store_Store_Sync_f (a0 : store_Store) (a1 : disk_Disk) : Option (Int × disk_Disk) :=
 (((if a0.broken = true then some (43, a1) else (if a0.begun = true then ((disk_Disk_Sync_f a1).bind fun (x12, x13) => some (x12, x13)) else some (43, a1))) : Option (Int × disk_Disk)).bind fun (x7, x8) => some (x7, x8))
theorem store_Store_Sync_ok {w0 w : World} {ps : List PF} {fs : List SF} {a0 : store_Store} {g0_ : Nat} {a1 : disk_Disk} {g1_ : Nat} {r0 : Int} {s1 : disk_Disk} (H : Hp w0 ps (obj_store_Store g0_ g1_ a0 :: obj_disk_Disk g1_ a1 :: fs) w) (h : store_Store_Sync_f a0 a1 = some (r0, s1)) :
  Calls Try.prog 23 [pt g0_].toArray w fun e w' => ∃ v, e = .returned v ∧ v = .int .i64 r0 ∧ Hp w0 ps (obj_store_Store g0_ g1_ a0 :: obj_disk_Disk g1_ s1 :: fs) w' := by
 refine enter [pt g0_] 10 Try.func23 fun Q a NP RET NRM F => ?_
 replace NP := np NP
 unfold store_Store_Sync_f at h
 refine rg ?_
 refine as_ F (v := .int .i64 0) rfl fun a F => ?_
 refine rgend ?_
 refine rg ?_
 iterate 2 refine mv F rfl fun a F => ?_
 refine qw F (r_nc (F.t 4 rfl)) fun a F => ?_
 refine qw F (r_fa (off := 0) (F.t 5 rfl) fa73_0) fun a F => ?_
 obtain ⟨A1, c2, A3, c4, A5, c6, H⟩ := Hp.openO_store_Store (H)
 refine qw F (r_ld (F.t 6 rfl) (cel_cell (o := 0) (H.cell 0 rfl) rfl) one24) fun a F => ?_
 refine qw F (r_mf (f' := #[pt g1_]) (c' := #[]) (by rw [List.map_toArray]; exact congrArg _ (F.evs rfl)) (by rw [List.map_toArray]; exact congrArg _ (F.evs rfl))) fun a F => ?_
 obtain ⟨o_8, k_8, h⟩ := Option.bind_eq_some_iff.1 h
 refine ls (call F Try.func45 (R := fun v w => ∃ (x7 : Int) (x8 : disk_Disk), (x7, x8) = o_8 ∧ v = .int .i64 x7 ∧ Hp w0 ps (obj_disk_Disk g1_ x8 :: obj_store_Store g0_ g1_ a0 :: fs) w) (args := [pt g0_, .func (.func 29) #[pt g1_] #[]]) (cap := []) ?_ rfl rfl ?_)
 ·refine enter [pt g0_, .func (.func 29) #[pt g1_] #[]] 18 Try.func45 fun Q a NP RET NRM F => ?_
  replace NP := np NP
  refine rg ?_
  refine as_ F (v := .int .i64 0) rfl fun a F => ?_
  refine rgend ?_
  refine wp_seq ?_
  refine rg ?_
  refine mv F rfl fun a F => ?_
  refine qw F (r_nc (F.t 5 rfl)) fun a F => ?_
  refine qw F (r_fa (off := 8) (F.t 6 rfl) fa73_5) fun a F => ?_
  refine qw F (r_ld (F.t 7 rfl) (cel_cell (o := 8) (H.cell 0 rfl) rfl) one4) fun a F => ?_
  refine mv F rfl fun a F => ?_
  by_cases c10 : a0.broken = true
  ·rw [if_pos c10] at k_8
   rw [c10] at F
   iterate 5 refine of_ F fun a F => ?_
   refine qw F (r_pickT (F.t 9 rfl) (F.k (.bool true))) fun a F => ?_
   refine rgend ?_
   replace F := F.only [15, 1] (l' := [(15, _), (1, _)]) rfl
   refine wp_cond_true (F.ev rfl) ?_
   refine rg ?_
   refine as_ F (v := .int .i64 43) rfl fun a F => ?_
   refine rgend ?_
   refine wp_ret ?_
   replace H := Hp.closeO_store_Store (x := a0) (H) 0 rfl 1 rfl
   try dsimp only at k_8
   obtain rfl := Option.some.inj k_8
   exact RET _ _ (ret1 F rfl rfl ⟨_, rfl, _, _, rfl, rfl, H.px1.px0.f1⟩)
  rw [if_neg c10] at k_8
  rw [Bool.eq_false_iff.2 c10] at F
  refine mv F rfl fun a F => ?_
  refine qw F (r_nc (F.t 10 rfl)) fun a F => ?_
  refine qw F (r_fa (off := 7) (F.t 11 rfl) fa73_4) fun a F => ?_
  refine qw F (r_ld (F.t 12 rfl) (cel_cell (o := 7) (H.cell 0 rfl) rfl) one4) fun a F => ?_
  refine qw F (r_not (F.t 13 rfl)) fun a F => ?_
  refine qw F (r_pickF (F.t 9 rfl) (F.t 14 rfl)) fun a F => ?_
  refine rgend ?_
  replace F := F.only [15, 1] (l' := [(15, _), (1, _)]) rfl
  by_cases c11 : a0.begun = true
  ·rw [if_pos c11] at k_8
   rw [c11] at F
   refine wp_cond_false (F.ev rfl) ?_
   refine wp_skip ?_
   refine rg ?_
   refine mv F rfl fun a F => ?_
   obtain ⟨⟨x12, x13⟩, e14, k_8⟩ := Option.bind_eq_some_iff.1 k_8
   try dsimp only at k_8
   refine ls (callF F Try.func29 (disk_Disk_Sync_ok (H.f1.f1.f2) e14) rfl rfl fun v w hR a F => ?_)
   obtain ⟨rfl, H⟩ := hR
   refine as_ F rfl fun a F => ?_
   refine rgend ?_
   replace F := F.only [4] (l' := [(4, _)]) rfl
   refine wp_ret ?_
   replace H := Hp.closeO_store_Store (x := a0) (H.f2.f2) 0 rfl 1 rfl
   try dsimp only at k_8
   obtain rfl := Option.some.inj k_8
   exact RET _ _ (ret1 F rfl rfl ⟨_, rfl, _, _, rfl, rfl, H.px1.px0.f1⟩)
  rw [if_neg c11] at k_8
  rw [Bool.eq_false_iff.2 c11] at F
  refine wp_cond_true (F.ev rfl) ?_
  refine rg ?_
  refine as_ F (v := .int .i64 43) rfl fun a F => ?_
  refine rgend ?_
  refine wp_ret ?_
  replace H := Hp.closeO_store_Store (x := a0) (H) 0 rfl 1 rfl
  try dsimp only at k_8
  obtain rfl := Option.some.inj k_8
  exact RET _ _ (ret1 F rfl rfl ⟨_, rfl, _, _, rfl, rfl, H.px1.px0.f1⟩)
 rintro v w ⟨x7, x8, rfl, rfl, H⟩ a F
 try dsimp only at h F H
 refine as_ F rfl fun a F => ?_
 refine rgend ?_
 replace F := F.only [2] (l' := [(2, _)]) rfl
 refine wp_ret ?_
 try dsimp only at h
 obtain ⟨rfl, rfl⟩ := Prod.mk.inj (Option.some.inj h)
 exact RET _ _ (ret1 F rfl rfl ⟨_, rfl, rfl, H.f1⟩)
def law18_Great_b1 (a0 : List law18_Op) (x2 : Int) : (Int × Int) → Option (Int × Int ⊕ Int)
 | (x57, x58) => (((if 0 ≤ x2 ∧ x2 < (a0.length : Int) then (if x58 < (((a0.getD (x2 : Int).toNat (⟨0, [], [], [], 0, []⟩ : law18_Op)).Kept).length : Int) then some ((decide (x57 < 9000))) else some false) else none) : Option (Bool)).bind fun x61 => (if x61 = true then (if 0 ≤ x2 ∧ x2 < (a0.length : Int) then (if 0 ≤ x58 ∧ x58 < (((a0.getD (x2 : Int).toNat (⟨0, [], [], [], 0, []⟩ : law18_Op)).Kept).length : Int) then some (.inl (IntKind.i64.wrap (x57 + (min (((((a0.getD (x2 : Int).toNat (⟨0, [], [], [], 0, []⟩ : law18_Op)).Kept).getD (x58 : Int).toNat [])).length : Int) 9000)), IntKind.i64.wrap (x58 + 1))) else none) else none) else some (.inr x57)))
def law18_Great_b0 (a0 : List law18_Op) : (Int × Int) → Option (Int × Int ⊕ Int)
 | (x1, x2) => (((if x2 < (a0.length : Int) then some ((decide (x1 < 9000))) else some false) : Option (Bool)).bind fun x5 => (if x5 = true then (if 0 ≤ x2 ∧ x2 < (a0.length : Int) then (if 0 ≤ x2 ∧ x2 < (a0.length : Int) then (if 0 ≤ x2 ∧ x2 < (a0.length : Int) then (if 0 ≤ x2 ∧ x2 < (a0.length : Int) then ((lp (law18_Great_b1 a0 x2) (IntKind.i64.wrap ((IntKind.i64.wrap ((IntKind.i64.wrap ((IntKind.i64.wrap (x1 + (min (((a0.getD (x2 : Int).toNat (⟨0, [], [], [], 0, []⟩ : law18_Op)).State).length : Int) 9000))) + (min (((a0.getD (x2 : Int).toNat (⟨0, [], [], [], 0, []⟩ : law18_Op)).Entry).length : Int) 9000))) + (min (((a0.getD (x2 : Int).toNat (⟨0, [], [], [], 0, []⟩ : law18_Op)).Keep).length : Int) 9000))) + (min (((a0.getD (x2 : Int).toNat (⟨0, [], [], [], 0, []⟩ : law18_Op)).Kept).length : Int) 9000)), 0)).bind fun x59 => some (.inl (x59, IntKind.i64.wrap (x2 + 1)))) else none) else none) else none) else none) else some (.inr x1)))
def law18_Great_f (a0 : List law18_Op) : Option (Bool) :=
 ((lp (law18_Great_b0 a0) ((a0.length : Int), 0)).bind fun x3 => (((if x3 ≥ 9000 then some true else some ((decide ((a0.length : Int) > 60)))) : Option (Bool)).bind fun x95 => some x95))
theorem law18_Great_ok {w0 w : World} {ps : List PF} {fs : List SF} {a0 : List law18_Op} {A0_ : Option Addr} {c0_ : Nat} {r0 : Bool} (H : Hp w0 (rd k_law18_Op A0_ c0_ a0 :: ps) fs w) (h : law18_Great_f a0 = some r0) :
  Calls Try.prog 12 [.slice A0_ a0.length c0_].toArray w fun e w' => ∃ v, e = .returned v ∧ v = .bool r0 ∧ Hp w0 ps fs w' := by
 refine enter [.slice A0_ a0.length c0_] 84 Try.func12 fun Q a NP RET NRM F => ?_
 replace NP := np NP
 unfold law18_Great_f at h
 refine rg ?_
 refine as_ F (v := .bool false) rfl fun a F => ?_
 refine rgend ?_
 refine rg ?_
 refine mv F rfl fun a F => ?_
 refine qw F (r_len (F.t 6 rfl) Try.underlying22) fun a F => ?_
 refine as_ F rfl fun a F => ?_
 refine rgend ?_
 refine wp_seq ?_
 refine rg ?_
 refine as_ F (v := .int .i64 0) rfl fun a F => ?_
 refine rgend ?_
 obtain ⟨o_3, k_3, h⟩ := Option.bind_eq_some_iff.1 h
 refine cut (fun a w => ∃ (x3 : Int), x3 = o_3 ∧ Fr 84 [] [(0, .slice A0_ a0.length c0_), (3, .int .i64 x3)] a ∧ Hp w0 (rd k_law18_Op A0_ c0_ a0 :: ps) fs w) (wp_block ?_) ?_
 ·refine wloop (law18_Great_b0 a0) (fun (s : Int × Int) a w => Fr 84 [] [(0, .slice A0_ a0.length c0_), (3, .int .i64 s.1), (4, .int .i64 s.2)] a ∧ Hp w0 (rd k_law18_Op A0_ c0_ a0 :: ps) fs w) k_3 ⟨F.only [0, 3, 4] rfl, H⟩ ?_
  rintro ⟨x1, x2⟩ a w q_3 j_3 u_3 ⟨F, H⟩
  unfold law18_Great_b0 at j_3
  try dsimp only at j_3 F H
  iterate 2 refine wp_seq ?_
  obtain ⟨o_5, k_5, j_3⟩ := Option.bind_eq_some_iff.1 j_3
  refine cut (fun a w => ∃ (x5 : Bool), x5 = o_5 ∧ Fr 84 [] [(0, .slice A0_ a0.length c0_), (3, .int .i64 x1), (4, .int .i64 x2), (15, .bool x5)] a ∧ Hp w0 (rd k_law18_Op A0_ c0_ a0 :: ps) fs w) ?_ ?_
  ·skip
   refine wp_region_lit ?_
   iterate 2 refine mv F rfl fun a F => ?_
   refine qw F (r_len (F.t 9 rfl) Try.underlying22) fun a F => ?_
   refine qw F (r_lt (F.t 8 rfl) (F.t 10 rfl)) fun a F => ?_
   refine mv F rfl fun a F => ?_
   by_cases c7 : x2 < (a0.length : Int)
   ·rw [if_pos c7] at k_5
    rw [decide_eq_true c7] at F
    refine mv F rfl fun a F => ?_
    refine qw F (r_lt (F.t 13 rfl) (F.k (.int .i64 9000))) fun a F => ?_
    refine qw F (r_pickT (F.t 12 rfl) (F.t 14 rfl)) fun a F => ?_
    refine wpList_nil ?_
    replace F := F.only [15, 0, 3, 4] (l' := [(15, _), (0, _), (3, _), (4, _)]) rfl
    try dsimp only at k_5
    obtain rfl := Option.some.inj k_5
    exact ⟨_, rfl, F.only [0, 3, 4, 15] rfl, H⟩
   rw [if_neg c7] at k_5
   rw [decide_eq_false c7] at F
   iterate 2 refine of_ F fun a F => ?_
   refine qw F (r_pickF (F.t 12 rfl) (F.k (.bool false))) fun a F => ?_
   refine wpList_nil ?_
   replace F := F.only [15, 0, 3, 4] (l' := [(15, _), (0, _), (3, _), (4, _)]) rfl
   try dsimp only at k_5
   obtain rfl := Option.some.inj k_5
   exact ⟨_, rfl, F.only [0, 3, 4, 15] rfl, H⟩
  rintro a w ⟨x5, rfl, F, H⟩
  try dsimp only at j_3 F H
  by_cases c8 : x5 = true
  ·rw [if_pos c8] at j_3
   rw [c8] at F
   refine wp_cond_true (F.ev rfl) ?_
   refine wp_skip ?_
   refine wp_seq ?_
   refine wp_block ?_
   refine wp_seq ?_
   replace H := H.drew
   have HS := H
   refine dr (fun w => Hp w0 (rd k_law18_Op A0_ c0_ a0 :: ps) fs w) _ (by kernel_rfl) ?_ (n := 34)
   refine dk 0 F rfl NP HS (fun w S => (r_mv (F.t 3 rfl))) fun a F => ?_
   refine dk 1 F rfl NP HS (fun w S => (r_mv (F.t 0 rfl))) fun a F => ?_
   refine dk 2 F rfl NP HS (fun w S => (r_mv (F.t 4 rfl))) fun a F => ?_
   obtain ⟨c9, j_3⟩ := guardO j_3
   obtain ⟨g10, o11, s12, hr, H⟩ := H.ix (⟨0, [], [], [], 0, []⟩ : law18_Op) 0 rfl (F.t 19 rfl) (F.t 20 rfl) Try.underlying22 sz35 (by decide) c9.1 c9.2
   obtain ⟨A13, c14, A15, c16, A17, c18, A19, c20, rfl, H⟩ := H.open_law18_Op 1 rfl
   have HS := H
   refine dmoreH HS (fun w S => S.px5.px4.px3.px2.px1.px0) ?_
   refine dk 3 F rfl NP HS (fun w S => (hr _ _ _ _ _ _)) fun a F => ?_
   refine dk 4 F rfl NP HS (fun w S => (r_fa (off := 1) (F.t 21 rfl) fa35_1)) fun a F => ?_
   refine dk 5 F rfl NP HS (fun w S => (r_ld (F.t 22 rfl) (range_cell (j := 1) (S.range 4 rfl) rfl) one29)) fun a F => ?_
   refine dk 6 F rfl NP HS (fun w S => (r_len (F.t 23 rfl) Try.underlying29)) fun a F => ?_
   refine dk 7 F rfl NP HS (fun w S => (r_min (F.t 24 rfl) (F.k (.int .i64 9000)))) fun a F => ?_
   refine dk 8 F rfl NP HS (fun w S => (r_add (F.t 18 rfl) (F.t 25 rfl))) fun a F => ?_
   refine dk 9 F rfl NP HS (fun w S => (r_mv (F.t 0 rfl))) fun a F => ?_
   refine dk 10 F rfl NP HS (fun w S => (r_mv (F.t 4 rfl))) fun a F => ?_
   obtain ⟨c21, j_3⟩ := guardO j_3
   obtain ⟨g22, o23, s24, hr, H⟩ := H.ix (⟨0, [], [], [], 0, []⟩ : law18_Op) 6 rfl (F.t 27 rfl) (F.t 28 rfl) Try.underlying22 sz35 (by decide) c21.1 c21.2
   obtain ⟨A25, c26, A27, c28, A29, c30, A31, c32, rfl, H⟩ := H.open_law18_Op 1 rfl
   have HS := H
   refine dmoreH HS (fun w S => S.px5.px4.px3.px2.px1.px0) ?_
   refine dk 11 F rfl NP HS (fun w S => (hr _ _ _ _ _ _)) fun a F => ?_
   refine dk 12 F rfl NP HS (fun w S => (r_fa (off := 3) (F.t 29 rfl) fa35_3)) fun a F => ?_
   refine dk 13 F rfl NP HS (fun w S => (r_ld (F.t 30 rfl) (range_cell (j := 3) (S.range 4 rfl) rfl) one29)) fun a F => ?_
   refine dk 14 F rfl NP HS (fun w S => (r_len (F.t 31 rfl) Try.underlying29)) fun a F => ?_
   refine dk 15 F rfl NP HS (fun w S => (r_min (F.t 32 rfl) (F.k (.int .i64 9000)))) fun a F => ?_
   refine dk 16 F rfl NP HS (fun w S => (r_add (F.t 26 rfl) (F.t 33 rfl))) fun a F => ?_
   refine dk 17 F rfl NP HS (fun w S => (r_mv (F.t 0 rfl))) fun a F => ?_
   refine dk 18 F rfl NP HS (fun w S => (r_mv (F.t 4 rfl))) fun a F => ?_
   obtain ⟨c33, j_3⟩ := guardO j_3
   obtain ⟨g34, o35, s36, hr, H⟩ := H.ix (⟨0, [], [], [], 0, []⟩ : law18_Op) 12 rfl (F.t 35 rfl) (F.t 36 rfl) Try.underlying22 sz35 (by decide) c33.1 c33.2
   obtain ⟨A37, c38, A39, c40, A41, c42, A43, c44, rfl, H⟩ := H.open_law18_Op 1 rfl
   have HS := H
   refine dmoreH HS (fun w S => S.px5.px4.px3.px2.px1.px0) ?_
   refine dk 19 F rfl NP HS (fun w S => (hr _ _ _ _ _ _)) fun a F => ?_
   refine dk 20 F rfl NP HS (fun w S => (r_fa (off := 5) (F.t 37 rfl) fa35_5)) fun a F => ?_
   refine dk 21 F rfl NP HS (fun w S => (r_ld (F.t 38 rfl) (range_cell (j := 5) (S.range 4 rfl) rfl) one33)) fun a F => ?_
   refine dk 22 F rfl NP HS (fun w S => (r_len (F.t 39 rfl) Try.underlying33)) fun a F => ?_
   refine dk 23 F rfl NP HS (fun w S => (r_min (F.t 40 rfl) (F.k (.int .i64 9000)))) fun a F => ?_
   refine dk 24 F rfl NP HS (fun w S => (r_add (F.t 34 rfl) (F.t 41 rfl))) fun a F => ?_
   refine dk 25 F rfl NP HS (fun w S => (r_mv (F.t 0 rfl))) fun a F => ?_
   refine dk 26 F rfl NP HS (fun w S => (r_mv (F.t 4 rfl))) fun a F => ?_
   obtain ⟨c45, j_3⟩ := guardO j_3
   obtain ⟨g46, o47, s48, hr, H⟩ := H.ix (⟨0, [], [], [], 0, []⟩ : law18_Op) 18 rfl (F.t 43 rfl) (F.t 44 rfl) Try.underlying22 sz35 (by decide) c45.1 c45.2
   obtain ⟨A49, c50, A51, c52, A53, c54, A55, c56, rfl, H⟩ := H.open_law18_Op 1 rfl
   have HS := H
   refine dmoreH HS (fun w S => S.px5.px4.px3.px2.px1.px0) ?_
   refine dk 27 F rfl NP HS (fun w S => (hr _ _ _ _ _ _)) fun a F => ?_
   refine dk 28 F rfl NP HS (fun w S => (r_fa (off := 2) (F.t 45 rfl) fa35_2)) fun a F => ?_
   refine dk 29 F rfl NP HS (fun w S => (r_ld (F.t 46 rfl) (range_cell (j := 2) (S.range 4 rfl) rfl) one30)) fun a F => ?_
   refine dk 30 F rfl NP HS (fun w S => (r_len (F.t 47 rfl) Try.underlying30)) fun a F => ?_
   refine dk 31 F rfl NP HS (fun w S => (r_min (F.t 48 rfl) (F.k (.int .i64 9000)))) fun a F => ?_
   refine dk 32 F rfl NP HS (fun w S => (r_add (F.t 42 rfl) (F.t 49 rfl))) fun a F => ?_
   refine dk 33 F rfl NP HS (fun w S => (r_as (F.t 50 rfl))) fun a F => ?_
   refine ddone (by kernel_rfl) ?_
   replace F := F.only [3, 0, 4] (l' := [(3, _), (0, _), (4, _)]) rfl
   refine rg ?_
   refine as_ F (v := .int .i64 0) rfl fun a F => ?_
   refine rgend ?_
   obtain ⟨o_59, k_59, j_3⟩ := Option.bind_eq_some_iff.1 j_3
   refine cut (fun a w => ∃ (x59 : Int), x59 = o_59 ∧ Fr 84 [] [(0, .slice A0_ a0.length c0_), (3, .int .i64 x59), (4, .int .i64 x2)] a ∧ Hp w0 (rd k_law18_Op A0_ c0_ a0 :: ps) fs w) (wp_block ?_) ?_
   ·refine wloop (law18_Great_b1 a0 x2) (fun (s : Int × Int) a w => Fr 84 [] [(0, .slice A0_ a0.length c0_), (3, .int .i64 s.1), (4, .int .i64 x2), (5, .int .i64 s.2)] a ∧ Hp w0 (rd k_law18_Op A0_ c0_ a0 :: ps) fs w) k_59 ⟨F.only [0, 3, 4, 5] rfl, H.px23.px22.px21.px20.px19.px18.px17.px16.px15.px14.px13.px12.px11.px10.px9.px8.px7.px6.px5.px4.px3.px2.px1.px0⟩ ?_
    rintro ⟨x57, x58⟩ a w q_59 j_59 u_59 ⟨F, H⟩
    unfold law18_Great_b1 at j_59
    try dsimp only at j_59 F H
    iterate 2 refine wp_seq ?_
    obtain ⟨o_61, k_61, j_59⟩ := Option.bind_eq_some_iff.1 j_59
    refine cut (fun a w => ∃ (x61 : Bool), x61 = o_61 ∧ Fr 84 [] [(0, .slice A0_ a0.length c0_), (3, .int .i64 x57), (4, .int .i64 x2), (5, .int .i64 x58), (62, .bool x61)] a ∧ Hp w0 (rd k_law18_Op A0_ c0_ a0 :: ps) fs w) ?_ ?_
    ·skip
     refine wp_region_lit ?_
     iterate 3 refine mv F rfl fun a F => ?_
     obtain ⟨c63, k_61⟩ := guardO k_61
     obtain ⟨g64, o65, s66, hr, H⟩ := H.ix (⟨0, [], [], [], 0, []⟩ : law18_Op) 0 rfl (F.t 52 rfl) (F.t 53 rfl) Try.underlying22 sz35 (by decide) c63.1 c63.2
     obtain ⟨A67, c68, A69, c70, A71, c72, A73, c74, rfl, H⟩ := H.open_law18_Op 1 rfl
     refine qw F (hr _ _ _ _ _ _) fun a F => ?_
     refine qw F (r_fa (off := 2) (F.t 54 rfl) fa35_2) fun a F => ?_
     refine qw F (r_ld (F.t 55 rfl) (range_cell (j := 2) (H.range 4 rfl) rfl) one30) fun a F => ?_
     refine qw F (r_len (F.t 56 rfl) Try.underlying30) fun a F => ?_
     refine qw F (r_lt (F.t 51 rfl) (F.t 57 rfl)) fun a F => ?_
     refine mv F rfl fun a F => ?_
     by_cases c75 : x58 < (((a0.getD (x2 : Int).toNat (⟨0, [], [], [], 0, []⟩ : law18_Op)).Kept).length : Int)
     ·rw [if_pos c75] at k_61
      rw [decide_eq_true c75] at F
      refine mv F rfl fun a F => ?_
      refine qw F (r_lt (F.t 60 rfl) (F.k (.int .i64 9000))) fun a F => ?_
      refine qw F (r_pickT (F.t 59 rfl) (F.t 61 rfl)) fun a F => ?_
      refine wpList_nil ?_
      replace F := F.only [62, 0, 3, 4, 5] (l' := [(62, _), (0, _), (3, _), (4, _), (5, _)]) rfl
      try dsimp only at k_61
      obtain rfl := Option.some.inj k_61
      exact ⟨_, rfl, F.only [0, 3, 4, 5, 62] rfl, H.px5.px4.px3.px2.px1.px0⟩
     rw [if_neg c75] at k_61
     rw [decide_eq_false c75] at F
     iterate 2 refine of_ F fun a F => ?_
     refine qw F (r_pickF (F.t 59 rfl) (F.k (.bool false))) fun a F => ?_
     refine wpList_nil ?_
     replace F := F.only [62, 0, 3, 4, 5] (l' := [(62, _), (0, _), (3, _), (4, _), (5, _)]) rfl
     try dsimp only at k_61
     obtain rfl := Option.some.inj k_61
     exact ⟨_, rfl, F.only [0, 3, 4, 5, 62] rfl, H.px5.px4.px3.px2.px1.px0⟩
    rintro a w ⟨x61, rfl, F, H⟩
    try dsimp only at j_59 F H
    by_cases c76 : x61 = true
    ·rw [if_pos c76] at j_59
     rw [c76] at F
     refine wp_cond_true (F.ev rfl) ?_
     refine wp_skip ?_
     refine wp_seq ?_
     refine wp_block ?_
     refine wp_region_lit ?_
     iterate 3 refine mv F rfl fun a F => ?_
     obtain ⟨c77, j_59⟩ := guardO j_59
     obtain ⟨g78, o79, s80, hr, H⟩ := H.ix (⟨0, [], [], [], 0, []⟩ : law18_Op) 0 rfl (F.t 66 rfl) (F.t 67 rfl) Try.underlying22 sz35 (by decide) c77.1 c77.2
     obtain ⟨A81, c82, A83, c84, A85, c86, A87, c88, rfl, H⟩ := H.open_law18_Op 1 rfl
     refine qw F (hr _ _ _ _ _ _) fun a F => ?_
     refine qw F (r_fa (off := 2) (F.t 68 rfl) fa35_2) fun a F => ?_
     refine qw F (r_ld (F.t 69 rfl) (range_cell (j := 2) (H.range 4 rfl) rfl) one30) fun a F => ?_
     refine mv F rfl fun a F => ?_
     obtain ⟨c89, j_59⟩ := guardO j_59
     obtain ⟨g90, o91, s92, hr, H⟩ := H.ix [] 1 rfl (F.t 70 rfl) (F.t 71 rfl) Try.underlying30 sz29 (by decide) c89.1 c89.2
     obtain ⟨A93, c94, rfl, H⟩ := H.says_slice 1 rfl
     refine qw F (hr _ _ _ _ _ _) fun a F => ?_
     refine qw F (r_ld (F.t 72 rfl) (range_cell (j := 0) (H.range 1 rfl) rfl) one29) fun a F => ?_
     refine qw F (r_len (F.t 73 rfl) Try.underlying29) fun a F => ?_
     refine qw F (r_min (F.t 74 rfl) (F.k (.int .i64 9000))) fun a F => ?_
     refine qw F (r_add (F.t 65 rfl) (F.t 75 rfl)) fun a F => ?_
     refine as_ F rfl fun a F => ?_
     refine wpList_nil ?_
     replace F := F.only [3, 0, 4, 5] (l' := [(3, _), (0, _), (4, _), (5, _)]) rfl
     refine wp_region_lit ?_
     refine mv F rfl fun a F => ?_
     refine qw F (r_add (F.t 63 rfl) (F.k (.int .i64 1))) fun a F => ?_
     refine as_ F rfl fun a F => ?_
     refine wpList_nil ?_
     try dsimp only at j_59
     obtain rfl := Option.some.inj j_59
     exact ⟨_, rfl, F.only [0, 3, 4, 5] rfl, H.px8.px7.px6.px5.px4.px3.px2.px1.px0⟩
    rw [if_neg c76] at j_59
    rw [Bool.eq_false_iff.2 c76] at F
    refine wp_cond_false (F.ev rfl) ?_
    refine wp_exit ?_
    try dsimp only at j_59
    obtain rfl := Option.some.inj j_59
    obtain rfl := u_59 _ rfl
    repeat (with_reducible refine exT ?_)
    with_reducible refine exB ?_
    exact ⟨_, rfl, F.only [0, 3, 4] rfl, H⟩
   rintro a w ⟨x59, rfl, F, H⟩
   try dsimp only at j_3 F H
   refine wp_region_lit ?_
   refine mv F rfl fun a F => ?_
   refine qw F (r_add (F.t 16 rfl) (F.k (.int .i64 1))) fun a F => ?_
   refine as_ F rfl fun a F => ?_
   refine wpList_nil ?_
   try dsimp only at j_3
   obtain rfl := Option.some.inj j_3
   exact ⟨_, rfl, F.only [0, 3, 4] rfl, H⟩
  rw [if_neg c8] at j_3
  rw [Bool.eq_false_iff.2 c8] at F
  refine wp_cond_false (F.ev rfl) ?_
  refine wp_exit ?_
  try dsimp only at j_3
  obtain rfl := Option.some.inj j_3
  obtain rfl := u_3 _ rfl
  repeat (with_reducible refine exT ?_)
  with_reducible refine exB ?_
  exact ⟨_, rfl, F.only [0, 3] rfl, H⟩
 rintro a w ⟨x3, rfl, F, H⟩
 try dsimp only at h F H
 refine wp_seq ?_
 obtain ⟨o_95, k_95, h⟩ := Option.bind_eq_some_iff.1 h
 refine cut (fun a w => ∃ (x95 : Bool), x95 = o_95 ∧ Fr 84 [] [(2, .bool x95)] a ∧ Hp w0 ps fs w) ?_ ?_
 ·skip
  refine wp_region_lit ?_
  refine mv F rfl fun a F => ?_
  refine qw F (r_ge (F.t 77 rfl) (F.k (.int .i64 9000))) fun a F => ?_
  refine mv F rfl fun a F => ?_
  by_cases c97 : x3 ≥ 9000
  ·rw [if_pos c97] at k_95
   rw [decide_eq_true c97] at F
   iterate 3 refine of_ F fun a F => ?_
   refine qw F (r_pickT (F.t 79 rfl) (F.k (.bool true))) fun a F => ?_
   refine as_ F rfl fun a F => ?_
   refine wpList_nil ?_
   replace F := F.only [2] (l' := [(2, _)]) rfl
   try dsimp only at k_95
   obtain rfl := Option.some.inj k_95
   exact ⟨_, rfl, F.only [2] rfl, H.px0⟩
  rw [if_neg c97] at k_95
  rw [decide_eq_false c97] at F
  refine mv F rfl fun a F => ?_
  refine qw F (r_len (F.t 80 rfl) Try.underlying22) fun a F => ?_
  refine qw F (r_gt (F.t 81 rfl) (F.k (.int .i64 60))) fun a F => ?_
  refine qw F (r_pickF (F.t 79 rfl) (F.t 82 rfl)) fun a F => ?_
  refine as_ F rfl fun a F => ?_
  refine wpList_nil ?_
  replace F := F.only [2] (l' := [(2, _)]) rfl
  try dsimp only at k_95
  obtain rfl := Option.some.inj k_95
  exact ⟨_, rfl, F.only [2] rfl, H.px0⟩
 rintro a w ⟨x95, rfl, F, H⟩
 try dsimp only at h F H
 refine wp_ret ?_
 try dsimp only at h
 obtain rfl := Option.some.inj h
 exact RET _ _ (ret1 F rfl rfl ⟨_, rfl, rfl, H⟩)
def law18_do_f (a0 : disk_Disk) (a1 : store_Store) (a2 : law18_Op) : Option (store_Store × Int × disk_Disk) :=
 (((if a2.What = 2 then some true else (((if a2.What = 3 then some true else some ((decide (a2.What = 4)))) : Option (Bool)).bind fun x5 => some x5)) : Option (Bool)).bind fun x2 => (if x2 = true then ((store_Store_Append_f a1 a2.Entry a0).bind fun (x9, x10, x11) => some (x10, x9, x11)) else (if a2.What = 5 then ((store_Store_Sync_f a1 a0).bind fun (x14, x15) => some (a1, x14, x15)) else (if a2.What = 6 then ((disk_Disk_Fuse_f a0 a2.N).bind fun x18 => some (a1, 0, x18)) else (if a2.What = 7 then ((disk_Disk_Crash_f a0 a2.Keep a2.N).bind fun x21 => ((store_Open_f x21).bind fun x23 => some (x23, 0, x21))) else ((store_Store_Begin_f a1 a2.State a2.Kept a0).bind fun (x26, x27, x28) => some (x27, x26, x28)))))))
theorem law18_do_ok {w0 w : World} {ps : List PF} {fs : List SF} {a0 : disk_Disk} {g0_ : Nat} {a1 : store_Store} {g1_ : Nat} {a2 : law18_Op} {A2_1 : Option Addr} {c2_1 : Nat} {A2_2 : Option Addr} {c2_2 : Nat} {A2_3 : Option Addr} {c2_3 : Nat} {A2_5 : Option Addr} {c2_5 : Nat} {r0 : store_Store} {r1 : Int} {s0 : disk_Disk} (H : Hp w0 (rd kByte A2_1 c2_1 a2.State :: rd (kSlice kByte) A2_2 c2_2 a2.Kept :: rd kByte A2_3 c2_3 a2.Entry :: rd kBool A2_5 c2_5 a2.Keep :: ps) (obj_disk_Disk g0_ a0 :: obj_store_Store g1_ g0_ a1 :: fs) w) (h : law18_do_f a0 a1 a2 = some (r0, r1, s0)) :
  Calls Try.prog 14 [pt g0_, pt g1_, .agg #[.int .i64 a2.What, .slice A2_1 a2.State.length c2_1, .slice A2_2 a2.Kept.length c2_2, .slice A2_3 a2.Entry.length c2_3, .int .i64 a2.N, .slice A2_5 a2.Keep.length c2_5]].toArray w fun e w' => ∃ v, e = .returned v ∧ ∃ (g0 : Nat), v = .tuple #[pt g0, .int .i64 r1] ∧ Hp w0 ps (obj_store_Store g0 g0_ r0 :: obj_disk_Disk g0_ s0 :: fs) w' := by
 refine enter [pt g0_, pt g1_, .agg #[.int .i64 a2.What, .slice A2_1 a2.State.length c2_1, .slice A2_2 a2.Kept.length c2_2, .slice A2_3 a2.Entry.length c2_3, .int .i64 a2.N, .slice A2_5 a2.Keep.length c2_5]] 48 Try.func14 fun Q a NP RET NRM F => ?_
 replace NP := np NP
 unfold law18_do_f at h
 refine rg ?_
 refine ls (lbox F H rfl (cs := [.int .i64 a2.What, .slice A2_1 a2.State.length c2_1, .slice A2_2 a2.Kept.length c2_2, .slice A2_3 a2.Entry.length c2_3, .int .i64 a2.N, .slice A2_5 a2.Keep.length c2_5]) rfl fun g1 w a H F => ?_)
 refine as_ F (v := .pointer none) rfl fun a F => ?_
 refine as_ F (v := .int .i64 0) rfl fun a F => ?_
 refine rgend ?_
 refine wp_seq ?_
 refine rg ?_
 refine qw F (r_fa (off := 0) (F.t 5 rfl) fa35_0) fun a F => ?_
 refine qw F (r_ld (F.t 8 rfl) (cel_cell (o := 0) (H.cell 0 rfl) rfl) one3) fun a F => ?_
 refine rgend ?_
 replace F := F.only [9, 5, 0, 1] (l' := [(9, _), (5, _), (0, _), (1, _)]) rfl
 refine wp_block ?_
 refine wp_seq ?_
 refine rg ?_
 refine qw F (r_eq (F.t 9 rfl) (F.k (.int .i64 2))) fun a F => ?_
 refine as_ F rfl fun a F => ?_
 refine rgend ?_
 obtain ⟨o_2, k_2, h⟩ := Option.bind_eq_some_iff.1 h
 refine cut (fun a w => ∃ (x2 : Bool), x2 = o_2 ∧ Fr 48 [] [(0, pt g0_), (1, pt g1_), (5, pt g1), (9, .int .i64 a2.What), (10, .bool x2)] a ∧ Hp w0 (rd kByte A2_1 c2_1 a2.State :: rd (kSlice kByte) A2_2 c2_2 a2.Kept :: rd kByte A2_3 c2_3 a2.Entry :: rd kBool A2_5 c2_5 a2.Keep :: ps) (obj_store_Store g1_ g0_ a1 :: obj_disk_Disk g0_ a0 :: cel g1 [.int .i64 a2.What, .slice A2_1 a2.State.length c2_1, .slice A2_2 a2.Kept.length c2_2, .slice A2_3 a2.Entry.length c2_3, .int .i64 a2.N, .slice A2_5 a2.Keep.length c2_5] 35 :: fs) w) ?_ ?_
 ·skip
  by_cases c4 : a2.What = 2
  ·rw [if_pos c4] at k_2
   rw [decide_eq_true c4] at F
   refine wp_cond_true (F.ev rfl) ?_
   refine wp_skip ?_
   try dsimp only at k_2
   obtain rfl := Option.some.inj k_2
   exact ⟨_, rfl, F.only [0, 1, 5, 9, 10] rfl, H.f1.f2⟩
  rw [if_neg c4] at k_2
  rw [decide_eq_false c4] at F
  refine wp_cond_false (F.ev rfl) ?_
  refine rg ?_
  refine qw F (r_eq (F.t 9 rfl) (F.k (.int .i64 3))) fun a F => ?_
  refine as_ F rfl fun a F => ?_
  refine rgend ?_
  obtain ⟨o_5, k_5, k_2⟩ := Option.bind_eq_some_iff.1 k_2
  refine cut (fun a w => ∃ (x5 : Bool), x5 = o_5 ∧ Fr 48 [] [(0, pt g0_), (1, pt g1_), (5, pt g1), (9, .int .i64 a2.What), (10, .bool x5)] a ∧ Hp w0 (rd kByte A2_1 c2_1 a2.State :: rd (kSlice kByte) A2_2 c2_2 a2.Kept :: rd kByte A2_3 c2_3 a2.Entry :: rd kBool A2_5 c2_5 a2.Keep :: ps) (obj_store_Store g1_ g0_ a1 :: obj_disk_Disk g0_ a0 :: cel g1 [.int .i64 a2.What, .slice A2_1 a2.State.length c2_1, .slice A2_2 a2.Kept.length c2_2, .slice A2_3 a2.Entry.length c2_3, .int .i64 a2.N, .slice A2_5 a2.Keep.length c2_5] 35 :: fs) w) ?_ ?_
  ·skip
   by_cases c7 : a2.What = 3
   ·rw [if_pos c7] at k_5
    rw [decide_eq_true c7] at F
    refine wp_cond_true (F.ev rfl) ?_
    refine wp_skip ?_
    try dsimp only at k_5
    obtain rfl := Option.some.inj k_5
    exact ⟨_, rfl, F.only [0, 1, 5, 9, 10] rfl, H.f1.f2⟩
   rw [if_neg c7] at k_5
   rw [decide_eq_false c7] at F
   refine wp_cond_false (F.ev rfl) ?_
   refine wp_region_lit ?_
   refine qw F (r_eq (F.t 9 rfl) (F.k (.int .i64 4))) fun a F => ?_
   refine as_ F rfl fun a F => ?_
   refine wpList_nil ?_
   replace F := F.only [10, 9, 5, 0, 1] (l' := [(10, _), (9, _), (5, _), (0, _), (1, _)]) rfl
   try dsimp only at k_5
   obtain rfl := Option.some.inj k_5
   exact ⟨_, rfl, F.only [0, 1, 5, 9, 10] rfl, H.f1.f2⟩
  rintro a w ⟨x5, rfl, F, H⟩
  try dsimp only at k_2 F H
  try dsimp only at k_2
  obtain rfl := Option.some.inj k_2
  exact ⟨_, rfl, F.only [0, 1, 5, 9, 10] rfl, H⟩
 rintro a w ⟨x2, rfl, F, H⟩
 try dsimp only at h F H
 by_cases c8 : x2 = true
 ·rw [if_pos c8] at h
  rw [c8] at F
  refine wp_cond_true (F.ev rfl) ?_
  refine rg ?_
  iterate 2 refine mv F rfl fun a F => ?_
  refine qw F (r_fa (off := 3) (F.t 5 rfl) fa35_3) fun a F => ?_
  refine qw F (r_ld (F.t 16 rfl) (cel_cell (o := 3) (H.cell 2 rfl) rfl) one29) fun a F => ?_
  obtain ⟨⟨x9, x10, x11⟩, e12, h⟩ := Option.bind_eq_some_iff.1 h
  try dsimp only at h
  refine ls (call F Try.func22 (store_Store_Append_ok (H.p2) e12) rfl rfl fun v w hR a F => ?_)
  obtain ⟨rfl, H⟩ := hR
  iterate 2 refine as_ F rfl fun a F => ?_
  refine rgend ?_
  replace F := F.only [7, 6] (l' := [(7, _), (6, _)]) rfl
  refine wp_ret ?_
  try dsimp only at h
  obtain ⟨rfl, hx_0⟩ := Prod.mk.inj (Option.some.inj h)
  obtain ⟨rfl, rfl⟩ := Prod.mk.inj hx_0
  exact RET _ _ (ret2 F rfl rfl rfl ⟨_, rfl, g1_, rfl, H.px3.px2.px1.px0.fx2⟩)
 rw [if_neg c8] at h
 rw [Bool.eq_false_iff.2 c8] at F
 refine wp_cond_false (F.ev rfl) ?_
 refine rg ?_
 refine qw F (r_eq (F.t 9 rfl) (F.k (.int .i64 5))) fun a F => ?_
 refine as_ F rfl fun a F => ?_
 refine rgend ?_
 by_cases c13 : a2.What = 5
 ·rw [if_pos c13] at h
  rw [decide_eq_true c13] at F
  refine wp_cond_true (F.ev rfl) ?_
  refine rg ?_
  iterate 2 refine mv F rfl fun a F => ?_
  obtain ⟨⟨x14, x15⟩, e16, h⟩ := Option.bind_eq_some_iff.1 h
  try dsimp only at h
  refine ls (call F Try.func23 (store_Store_Sync_ok (H) e16) rfl rfl fun v w hR a F => ?_)
  obtain ⟨rfl, H⟩ := hR
  iterate 2 refine as_ F rfl fun a F => ?_
  refine rgend ?_
  replace F := F.only [7, 6] (l' := [(7, _), (6, _)]) rfl
  refine wp_ret ?_
  try dsimp only at h
  obtain ⟨rfl, hx_0⟩ := Prod.mk.inj (Option.some.inj h)
  obtain ⟨rfl, rfl⟩ := Prod.mk.inj hx_0
  exact RET _ _ (ret2 F rfl rfl rfl ⟨_, rfl, g1_, rfl, H.px3.px2.px1.px0.fx2⟩)
 rw [if_neg c13] at h
 rw [decide_eq_false c13] at F
 refine wp_cond_false (F.ev rfl) ?_
 refine rg ?_
 refine qw F (r_eq (F.t 9 rfl) (F.k (.int .i64 6))) fun a F => ?_
 refine as_ F rfl fun a F => ?_
 refine rgend ?_
 replace F := F.only [24, 0, 1, 5, 9] (l' := [(24, _), (0, _), (1, _), (5, _), (9, _)]) rfl
 by_cases c17 : a2.What = 6
 ·rw [if_pos c17] at h
  rw [decide_eq_true c17] at F
  refine wp_cond_true (F.ev rfl) ?_
  refine rg ?_
  refine mv F rfl fun a F => ?_
  refine qw F (r_fa (off := 4) (F.t 5 rfl) fa35_4) fun a F => ?_
  refine qw F (r_ld (F.t 27 rfl) (cel_cell (o := 4) (H.cell 2 rfl) rfl) one3) fun a F => ?_
  obtain ⟨x18, e19, h⟩ := Option.bind_eq_some_iff.1 h
  try dsimp only at h
  refine ls (call F Try.func35 (disk_Disk_Fuse_ok (H.f2.f1.f2) e19) rfl rfl fun v w hR a F => ?_)
  obtain ⟨rfl, H⟩ := hR
  refine rgend ?_
  replace F := F.only [1] (l' := [(1, _)]) rfl
  refine rg ?_
  refine mv F rfl fun a F => ?_
  refine as_ F rfl fun a F => ?_
  refine as_ F (v := .int .i64 0) rfl fun a F => ?_
  refine rgend ?_
  refine wp_ret ?_
  try dsimp only at h
  obtain ⟨rfl, hx_0⟩ := Prod.mk.inj (Option.some.inj h)
  obtain ⟨rfl, rfl⟩ := Prod.mk.inj hx_0
  exact RET _ _ (ret2 F rfl rfl rfl ⟨_, rfl, g1_, rfl, H.px3.px2.px1.px0.f1.fx2⟩)
 rw [if_neg c17] at h
 rw [decide_eq_false c17] at F
 refine wp_cond_false (F.ev rfl) ?_
 refine rg ?_
 refine qw F (r_eq (F.t 9 rfl) (F.k (.int .i64 7))) fun a F => ?_
 refine as_ F rfl fun a F => ?_
 refine rgend ?_
 by_cases c20 : a2.What = 7
 ·rw [if_pos c20] at h
  rw [decide_eq_true c20] at F
  refine wp_cond_true (F.ev rfl) ?_
  refine rg ?_
  refine mv F rfl fun a F => ?_
  refine qw F (r_fa (off := 5) (F.t 5 rfl) fa35_5) fun a F => ?_
  refine qw F (r_ld (F.t 34 rfl) (cel_cell (o := 5) (H.cell 2 rfl) rfl) one33) fun a F => ?_
  refine qw F (r_fa (off := 4) (F.t 5 rfl) fa35_4) fun a F => ?_
  refine qw F (r_ld (F.t 36 rfl) (cel_cell (o := 4) (H.cell 2 rfl) rfl) one3) fun a F => ?_
  obtain ⟨x21, e22, h⟩ := Option.bind_eq_some_iff.1 h
  try dsimp only at h
  refine ls (call F Try.func24 (disk_Disk_Crash_ok (H.p3.f2.f1.f2) e22) rfl rfl fun v w hR a F => ?_)
  obtain ⟨rfl, H⟩ := hR
  refine rgend ?_
  replace F := F.only [0] (l' := [(0, _)]) rfl
  refine rg ?_
  refine mv F rfl fun a F => ?_
  obtain ⟨x23, e24, h⟩ := Option.bind_eq_some_iff.1 h
  try dsimp only at h
  refine ls (call F Try.func13 (store_Open_ok (H) e24) rfl rfl fun v w hR a F => ?_)
  obtain ⟨g25, rfl, H⟩ := hR
  refine as_ F rfl fun a F => ?_
  refine as_ F (v := .int .i64 0) rfl fun a F => ?_
  refine rgend ?_
  refine wp_ret ?_
  try dsimp only at h
  obtain ⟨rfl, hx_0⟩ := Prod.mk.inj (Option.some.inj h)
  obtain ⟨rfl, rfl⟩ := Prod.mk.inj hx_0
  exact RET _ _ (ret2 F rfl rfl rfl ⟨_, rfl, g25, rfl, H.px3.px2.px1.px0.fx3.fx2⟩)
 rw [if_neg c20] at h
 rw [decide_eq_false c20] at F
 refine wp_cond_false (F.ev rfl) ?_
 refine wp_skip ?_
 refine rg ?_
 iterate 2 refine mv F rfl fun a F => ?_
 refine qw F (r_fa (off := 1) (F.t 5 rfl) fa35_1) fun a F => ?_
 refine qw F (r_ld (F.t 43 rfl) (cel_cell (o := 1) (H.cell 2 rfl) rfl) one29) fun a F => ?_
 refine qw F (r_fa (off := 2) (F.t 5 rfl) fa35_2) fun a F => ?_
 refine qw F (r_ld (F.t 45 rfl) (cel_cell (o := 2) (H.cell 2 rfl) rfl) one30) fun a F => ?_
 obtain ⟨⟨x26, x27, x28⟩, e29, h⟩ := Option.bind_eq_some_iff.1 h
 try dsimp only at h
 refine ls (call F Try.func21 (store_Store_Begin_ok (H.p1.p1) e29) rfl rfl fun v w hR a F => ?_)
 obtain ⟨rfl, H⟩ := hR
 iterate 2 refine as_ F rfl fun a F => ?_
 refine rgend ?_
 replace F := F.only [7, 6] (l' := [(7, _), (6, _)]) rfl
 refine wp_ret ?_
 try dsimp only at h
 obtain ⟨rfl, hx_0⟩ := Prod.mk.inj (Option.some.inj h)
 obtain ⟨rfl, rfl⟩ := Prod.mk.inj hx_0
 exact RET _ _ (ret2 F rfl rfl rfl ⟨_, rfl, g1_, rfl, H.px3.px2.px1.px0.fx2⟩)
end Go.Proofs.Ytpmkpiffbdcflaa
