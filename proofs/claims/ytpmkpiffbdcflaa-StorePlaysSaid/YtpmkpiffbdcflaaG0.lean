/- What the functions compute. Printed by wip/gen. -/
import Derived.Test.YtpmkpiffbdcflaaGF
import Derived.Test.YtpmkpiffbdcflaaDiskRead
set_option linter.unusedVariables false
set_option linter.unusedSimpArgs false
set_option maxHeartbeats 4000000
set_option maxRecDepth 20000
namespace Go.Proofs.Ytpmkpiffbdcflaa
open Go Go.RowKit
def sector_Get_b4 (a0 : List Int) : (Int × Int × Int) → Option (Int × Int × Int ⊕ Int × Int)
 | (x68, x69, x70) => (if x69 < 1 then (if 0 ≤ x70 ∧ x70 < (a0.length : Int) then some (.inl (orI .i64 (IntKind.i64.wrap (x68 * 2 ^ (8))) (IntKind.i64.wrap (a0.getD (x70 : Int).toNat 0)), IntKind.i64.wrap (x69 + 1), IntKind.i64.wrap (x70 + 1))) else none) else some (.inr (x68, x70)))
def sector_Get_b3 (a0 : List Int) : (Int × Int × Int) → Option (Int × Int × Int ⊕ Int × Int)
 | (x52, x53, x54) => (if x53 < 2 then (if 0 ≤ x54 ∧ x54 < (a0.length : Int) then some (.inl (orI .i64 (IntKind.i64.wrap (x52 * 2 ^ (8))) (IntKind.i64.wrap (a0.getD (x54 : Int).toNat 0)), IntKind.i64.wrap (x53 + 1), IntKind.i64.wrap (x54 + 1))) else none) else some (.inr (x52, x54)))
def sector_Get_b2 (a0 : List Int) : (Int × Int × Int) → Option (Int × Int × Int ⊕ Int × Int)
 | (x37, x38, x39) => (if x38 < 1 then (if 0 ≤ x39 ∧ x39 < (a0.length : Int) then some (.inl (orI .i64 (IntKind.i64.wrap (x37 * 2 ^ (8))) (IntKind.i64.wrap (a0.getD (x39 : Int).toNat 0)), IntKind.i64.wrap (x38 + 1), IntKind.i64.wrap (x39 + 1))) else none) else some (.inr (x37, x39)))
def sector_Get_b1 (a0 : List Int) : (Int × Int × Int) → Option (Int × Int × Int ⊕ Int × Int)
 | (x22, x23, x24) => (if x23 < 2 then (if 0 ≤ x24 ∧ x24 < (a0.length : Int) then some (.inl (orI .i64 (IntKind.i64.wrap (x22 * 2 ^ (8))) (IntKind.i64.wrap (a0.getD (x24 : Int).toNat 0)), IntKind.i64.wrap (x23 + 1), IntKind.i64.wrap (x24 + 1))) else none) else some (.inr (x22, x24)))
def sector_Get_b0 (a0 : List Int) : (Int × Int) → Option (Int × Int ⊕ Int × Int)
 | (x8, x9) => (if x9 < 8 then (if 0 ≤ x9 ∧ x9 < (a0.length : Int) then some (.inl (orI .i64 (IntKind.i64.wrap (x8 * 2 ^ (8))) (IntKind.i64.wrap (a0.getD (x9 : Int).toNat 0)), IntKind.i64.wrap (x9 + 1))) else none) else some (.inr (x8, x9)))
def sector_Get_f (a0 : List Int) : Option (api_Sector × Bool) :=
 (if (a0.length : Int) ≠ 64 then some (((⟨0, 0, 0, 0, []⟩ : api_Sector), false)) else ((((lp (sector_Get_b0 a0) (0, 0)).bind fun (x10, x11) => some (x10, x11)) : Option (Int × Int)).bind fun (x5, x6) => ((((lp (sector_Get_b1 a0) (0, 0, x6)).bind fun (x25, x26) => some (x25, x26)) : Option (Int × Int)).bind fun (x19, x20) => ((((lp (sector_Get_b2 a0) (0, 0, x20)).bind fun (x40, x41) => some (x40, x41)) : Option (Int × Int)).bind fun (x34, x35) => ((((lp (sector_Get_b3 a0) (0, 0, x35)).bind fun (x55, x56) => some (x55, x56)) : Option (Int × Int)).bind fun (x49, x50) => ((((lp (sector_Get_b4 a0) (0, 0, x50)).bind fun (x71, x72) => some (x71, x72)) : Option (Int × Int)).bind fun (x65, x66) => (if 0 ≤ (14 : Int) ∧ (14 : Int) ≤ IntKind.i64.wrap (14 + (min x65 50)) ∧ IntKind.i64.wrap (14 + (min x65 50)) ≤ (a0.length : Int) then (if (0 + (((a0.take (IntKind.i64.wrap (14 + (min x65 50))).toNat).drop ((14 : Int)).toNat)).length) * 1 ≤ 140737488355328 then ((((sector_Right_f ((⟨x5, x19, x34, x49, ((a0.take (IntKind.i64.wrap (14 + (min x65 50))).toNat).drop ((14 : Int)).toNat)⟩ : api_Sector))).bind fun x88 => (if x88 = true then (if 64 ≤ a0.length then ((sector_bytes_f ((⟨x5, x19, x34, x49, ((a0.take (IntKind.i64.wrap (14 + (min x65 50))).toNat).drop ((14 : Int)).toNat)⟩ : api_Sector))).bind fun x94 => some ((decide (x94.l ≠ ((Arr.of 64 (a0.take 64))).l)))) else none) else some true)) : Option (Bool)).bind fun x86 => (if x86 = true then some (((⟨0, 0, 0, 0, []⟩ : api_Sector), false)) else some (((⟨x5, x19, x34, x49, ((a0.take (IntKind.i64.wrap (14 + (min x65 50))).toNat).drop ((14 : Int)).toNat)⟩ : api_Sector), true)))) else none) else none)))))))
theorem sector_Get_ok {w0 w : World} {ps : List PF} {fs : List SF} {a0 : List Int} {A0_ : Option Addr} {c0_ : Nat} {r0 : api_Sector} {r1 : Bool} (H : Hp w0 (rd kByte A0_ c0_ a0 :: ps) fs w) (h : sector_Get_f a0 = some (r0, r1)) :
  Calls Try.prog 92 [.slice A0_ a0.length c0_].toArray w fun e w' => ∃ v, e = .returned v ∧ ∃ (A0_4 : Option Addr) (c0_4 : Nat), v = .tuple #[.agg #[.int .i64 r0.Gen, .int .i64 r0.Place, .int .i64 r0.Parts, .int .i64 r0.Kept, .slice A0_4 r0.Body.length c0_4], .bool r1] ∧ Hp w0 (rd kByte A0_4 c0_4 r0.Body :: ps) fs w' := by
 refine enter [.slice A0_ a0.length c0_] 44 Try.func92 fun Q a NP RET NRM F => ?_
 replace NP := np NP
 unfold sector_Get_f at h
 refine rg ?_
 refine ls (lbox F H rfl (cs := [.slice A0_ a0.length c0_]) rfl fun g1 w a H F => ?_)
 refine ls (lal F H ti53 (cs := [.int .i64 0, .int .i64 0, .int .i64 0, .int .i64 0, .slice none 0 0]) rfl fun g2 w a H F => ?_)
 refine as_ F (v := .bool false) rfl fun a F => ?_
 refine rgend ?_
 refine wp_seq ?_
 refine rg ?_
 refine qw F (r_ld (F.t 1 rfl) (cel_cell (o := 0) (H.cell 1 rfl) rfl) one29) fun a F => ?_
 refine qw F (r_len (F.t 7 rfl) Try.underlying29) fun a F => ?_
 refine qw F (r_ne (F.t 8 rfl) (F.k (.int .i64 64))) fun a F => ?_
 refine rgend ?_
 replace F := F.only [9, 2, 1] (l' := [(9, _), (2, _), (1, _)]) rfl
 by_cases c3 : (a0.length : Int) ≠ 64
 ·rw [if_pos c3] at h
  rw [decide_eq_true c3] at F
  refine wp_cond_true (F.ev rfl) ?_
  refine rg ?_
  refine ls (lbd F (vs := []) (cs := [.int .i64 0, .int .i64 0, .int .i64 0, .int .i64 0, .slice none 0 0]) rfl (fun w => by kernel_rfl) fun a F => ?_)
  refine stF F [.int .i64 0, .int .i64 0, .int .i64 0, .int .i64 0, .slice none 0 0] H rfl rfl sz53 fun w a H F => ?_
  refine as_ F (v := .bool false) rfl fun a F => ?_
  refine rgend ?_
  refine wp_ret ?_
  replace H := H.nilRd kByte
  try dsimp only at h
  obtain ⟨rfl, rfl⟩ := Prod.mk.inj (Option.some.inj h)
  exact RET _ _ (retC2 F rfl rfl rfl (ldvA (cel_range (o := 0) (n := 5) (vs := [.int .i64 0, .int .i64 0, .int .i64 0, .int .i64 0, .slice none 0 0]) (H.cell 0 rfl) rfl) agg53 rfl) ⟨_, rfl, none, 0, rfl, H.px1.fx1.fx0⟩)
 rw [if_neg c3] at h
 rw [decide_eq_false c3] at F
 refine wp_cond_false (F.ev rfl) ?_
 refine wp_skip ?_
 refine rg ?_
 refine ls (lal F H ti3 (cs := [.int .i64 0]) rfl fun g4 w a H F => ?_)
 refine stF F [.int .i64 0] H rfl rfl sz3 fun w a H F => ?_
 refine rgend ?_
 refine rg ?_
 refine qw F (r_mf (f' := #[]) (c' := #[pt g1, pt g4]) (by simp) (by rw [List.map_toArray]; exact congrArg _ (F.evs rfl))) fun a F => ?_
 refine as_ F rfl fun a F => ?_
 refine rgend ?_
 refine rg ?_
 refine mv F rfl fun a F => ?_
 obtain ⟨o_6, k_6, h⟩ := Option.bind_eq_some_iff.1 h
 refine ls (call F Try.func100 (R := fun v w => ∃ (x5 : Int) (x6 : Int), (x5, x6) = o_6 ∧ v = .int .i64 x5 ∧ Hp w0 (rd kByte A0_ c0_ a0 :: ps) (cel g4 [.int .i64 x6] 3 :: cel g2 [.int .i64 0, .int .i64 0, .int .i64 0, .int .i64 0, .slice none 0 0] 53 :: cel g1 [.slice A0_ a0.length c0_] 29 :: fs) w) (args := [.int .i64 8, pt g1, pt g4]) (cap := [pt g1, pt g4]) ?_ rfl rfl ?_)
 ·refine enter [.int .i64 8, pt g1, pt g4] 21 Try.func100 fun Q a NP RET NRM F => ?_
  replace NP := np NP
  refine rg ?_
  refine as_ F (v := .int .i64 0) rfl fun a F => ?_
  refine rgend ?_
  refine rg ?_
  refine as_ F (v := .int .i64 0) rfl fun a F => ?_
  refine rgend ?_
  refine wp_seq ?_
  refine rg ?_
  refine mv F rfl fun a F => ?_
  refine mv F (v := .int .i64 0) rfl fun a F => ?_
  refine rgend ?_
  obtain ⟨o_11, k_11, k_6⟩ := Option.bind_eq_some_iff.1 k_6
  refine cut (fun a w => ∃ (x10 : Int) (x11 : Int), (x10, x11) = o_11 ∧ Fr 21 [] [(5, .int .i64 x10)] a ∧ Hp w0 (rd kByte A0_ c0_ a0 :: ps) (cel g4 [.int .i64 x11] 3 :: cel g2 [.int .i64 0, .int .i64 0, .int .i64 0, .int .i64 0, .slice none 0 0] 53 :: cel g1 [.slice A0_ a0.length c0_] 29 :: fs) w) (wp_block ?_) ?_
  ·refine wloop (sector_Get_b0 a0) (fun (s : Int × Int) a w => Fr 21 [] [(1, pt g1), (2, pt g4), (5, .int .i64 s.1), (6, .int .i64 8), (7, .int .i64 s.2)] a ∧ Hp w0 (rd kByte A0_ c0_ a0 :: ps) (cel g4 [.int .i64 s.2] 3 :: cel g2 [.int .i64 0, .int .i64 0, .int .i64 0, .int .i64 0, .slice none 0 0] 53 :: cel g1 [.slice A0_ a0.length c0_] 29 :: fs) w) k_11 ⟨F.only [1, 2, 5, 6, 7] rfl, H⟩ ?_
   rintro ⟨x8, x9⟩ a w q_11 j_11 u_11 ⟨F, H⟩
   unfold sector_Get_b0 at j_11
   try dsimp only at j_11 F H
   refine rg ?_
   refine qw F (r_lt (F.t 7 rfl) (F.t 6 rfl)) fun a F => ?_
   refine rgend ?_
   refine wp_seq ?_
   by_cases c13 : x9 < 8
   ·rw [if_pos c13] at j_11
    rw [decide_eq_true c13] at F
    refine wp_cond_true (F.ev rfl) ?_
    refine wp_skip ?_
    refine wp_seq ?_
    refine wp_block ?_
    refine rg ?_
    refine mv F rfl fun a F => ?_
    refine qw F (r_shl (F.t 9 rfl) (F.k (.int .u64 8)) (by decide)) fun a F => ?_
    refine qw F (r_ld (F.t 1 rfl) (cel_cell (o := 0) (H.cell 2 rfl) rfl) one29) fun a F => ?_
    refine qw F (r_ld (F.t 2 rfl) (cel_cell (o := 0) (H.cell 0 rfl) rfl) one3) fun a F => ?_
    obtain ⟨c14, j_11⟩ := guardO j_11
    obtain ⟨g15, o16, s17, hr, H⟩ := H.ix 0 0 rfl (F.t 11 rfl) (F.t 12 rfl) Try.underlying29 sz5 (by decide) c14.1 c14.2
    obtain ⟨rfl, hr18⟩ := H.says_byte 1 rfl
    refine qw F (hr _ _ _ _ _ _) fun a F => ?_
    refine qw F (r_ld (F.t 13 rfl) (range_cell (j := 0) (H.range 0 rfl) rfl) one5) fun a F => ?_
    refine qw F (r_ci (F.t 14 rfl) Try.underlying2 Try.underlying5) fun a F => ?_
    refine qw F (r_or (F.t 10 rfl) (F.t 15 rfl)) fun a F => ?_
    refine as_ F rfl fun a F => ?_
    refine rgend ?_
    replace F := F.only [5, 1, 2, 6, 7] (l' := [(5, _), (1, _), (2, _), (6, _), (7, _)]) rfl
    refine wp_region_lit ?_
    refine qw F (r_ld (F.t 2 rfl) (cel_cell (o := 0) (H.cell 0 rfl) rfl) one3) fun a F => ?_
    refine qw F (r_add (F.t 17 rfl) (F.k (.int .i64 1))) fun a F => ?_
    refine stF F [.int .i64 (IntKind.i64.wrap (x9 + 1))] H rfl rfl sz3 fun w a H F => ?_
    refine wpList_nil ?_
    refine wp_region_lit ?_
    refine qw F (r_add (F.t 7 rfl) (F.k (.int .i64 1))) fun a F => ?_
    refine mv F rfl fun a F => ?_
    refine wpList_nil ?_
    replace F := F.only [7, 5, 1, 2, 6] (l' := [(7, _), (5, _), (1, _), (2, _), (6, _)]) rfl
    try dsimp only at j_11
    obtain rfl := Option.some.inj j_11
    exact ⟨_, rfl, F.only [1, 2, 5, 6, 7] rfl, H.px1.px0⟩
   rw [if_neg c13] at j_11
   rw [decide_eq_false c13] at F
   refine wp_cond_false (F.ev rfl) ?_
   refine wp_exit ?_
   try dsimp only at j_11
   obtain rfl := Option.some.inj j_11
   obtain rfl := u_11 _ rfl
   repeat (with_reducible refine exT ?_)
   with_reducible refine exB ?_
   exact ⟨_, _, rfl, F.only [5] rfl, H⟩
  rintro a w ⟨x10, x11, rfl, F, H⟩
  try dsimp only at k_6 F H
  refine rg ?_
  refine mv F rfl fun a F => ?_
  refine as_ F rfl fun a F => ?_
  refine rgend ?_
  refine wp_ret ?_
  try dsimp only at k_6
  obtain rfl := Option.some.inj k_6
  exact RET _ _ (ret1 F rfl rfl ⟨_, rfl, _, _, rfl, rfl, H⟩)
 rintro v w ⟨x5, x6, rfl, rfl, H⟩ a F
 try dsimp only at h F H
 refine mv F rfl fun a F => ?_
 obtain ⟨o_20, k_20, h⟩ := Option.bind_eq_some_iff.1 h
 refine ls (call F Try.func100 (R := fun v w => ∃ (x19 : Int) (x20 : Int), (x19, x20) = o_20 ∧ v = .int .i64 x19 ∧ Hp w0 (rd kByte A0_ c0_ a0 :: ps) (cel g4 [.int .i64 x20] 3 :: cel g2 [.int .i64 0, .int .i64 0, .int .i64 0, .int .i64 0, .slice none 0 0] 53 :: cel g1 [.slice A0_ a0.length c0_] 29 :: fs) w) (args := [.int .i64 2, pt g1, pt g4]) (cap := [pt g1, pt g4]) ?_ rfl rfl ?_)
 ·refine enter [.int .i64 2, pt g1, pt g4] 21 Try.func100 fun Q a NP RET NRM F => ?_
  replace NP := np NP
  refine rg ?_
  refine as_ F (v := .int .i64 0) rfl fun a F => ?_
  refine rgend ?_
  refine rg ?_
  refine as_ F (v := .int .i64 0) rfl fun a F => ?_
  refine rgend ?_
  refine wp_seq ?_
  refine rg ?_
  refine mv F rfl fun a F => ?_
  refine mv F (v := .int .i64 0) rfl fun a F => ?_
  refine rgend ?_
  obtain ⟨o_26, k_26, k_20⟩ := Option.bind_eq_some_iff.1 k_20
  refine cut (fun a w => ∃ (x25 : Int) (x26 : Int), (x25, x26) = o_26 ∧ Fr 21 [] [(5, .int .i64 x25)] a ∧ Hp w0 (rd kByte A0_ c0_ a0 :: ps) (cel g4 [.int .i64 x26] 3 :: cel g2 [.int .i64 0, .int .i64 0, .int .i64 0, .int .i64 0, .slice none 0 0] 53 :: cel g1 [.slice A0_ a0.length c0_] 29 :: fs) w) (wp_block ?_) ?_
  ·refine wloop (sector_Get_b1 a0) (fun (s : Int × Int × Int) a w => Fr 21 [] [(1, pt g1), (2, pt g4), (5, .int .i64 s.1), (6, .int .i64 2), (7, .int .i64 s.2.1)] a ∧ Hp w0 (rd kByte A0_ c0_ a0 :: ps) (cel g4 [.int .i64 s.2.2] 3 :: cel g2 [.int .i64 0, .int .i64 0, .int .i64 0, .int .i64 0, .slice none 0 0] 53 :: cel g1 [.slice A0_ a0.length c0_] 29 :: fs) w) k_26 ⟨F.only [1, 2, 5, 6, 7] rfl, H⟩ ?_
   rintro ⟨x22, x23, x24⟩ a w q_26 j_26 u_26 ⟨F, H⟩
   unfold sector_Get_b1 at j_26
   try dsimp only at j_26 F H
   refine rg ?_
   refine qw F (r_lt (F.t 7 rfl) (F.t 6 rfl)) fun a F => ?_
   refine rgend ?_
   refine wp_seq ?_
   by_cases c28 : x23 < 2
   ·rw [if_pos c28] at j_26
    rw [decide_eq_true c28] at F
    refine wp_cond_true (F.ev rfl) ?_
    refine wp_skip ?_
    refine wp_seq ?_
    refine wp_block ?_
    refine rg ?_
    refine mv F rfl fun a F => ?_
    refine qw F (r_shl (F.t 9 rfl) (F.k (.int .u64 8)) (by decide)) fun a F => ?_
    refine qw F (r_ld (F.t 1 rfl) (cel_cell (o := 0) (H.cell 2 rfl) rfl) one29) fun a F => ?_
    refine qw F (r_ld (F.t 2 rfl) (cel_cell (o := 0) (H.cell 0 rfl) rfl) one3) fun a F => ?_
    obtain ⟨c29, j_26⟩ := guardO j_26
    obtain ⟨g30, o31, s32, hr, H⟩ := H.ix 0 0 rfl (F.t 11 rfl) (F.t 12 rfl) Try.underlying29 sz5 (by decide) c29.1 c29.2
    obtain ⟨rfl, hr33⟩ := H.says_byte 1 rfl
    refine qw F (hr _ _ _ _ _ _) fun a F => ?_
    refine qw F (r_ld (F.t 13 rfl) (range_cell (j := 0) (H.range 0 rfl) rfl) one5) fun a F => ?_
    refine qw F (r_ci (F.t 14 rfl) Try.underlying2 Try.underlying5) fun a F => ?_
    refine qw F (r_or (F.t 10 rfl) (F.t 15 rfl)) fun a F => ?_
    refine as_ F rfl fun a F => ?_
    refine rgend ?_
    replace F := F.only [5, 1, 2, 6, 7] (l' := [(5, _), (1, _), (2, _), (6, _), (7, _)]) rfl
    refine wp_region_lit ?_
    refine qw F (r_ld (F.t 2 rfl) (cel_cell (o := 0) (H.cell 0 rfl) rfl) one3) fun a F => ?_
    refine qw F (r_add (F.t 17 rfl) (F.k (.int .i64 1))) fun a F => ?_
    refine stF F [.int .i64 (IntKind.i64.wrap (x24 + 1))] H rfl rfl sz3 fun w a H F => ?_
    refine wpList_nil ?_
    refine wp_region_lit ?_
    refine qw F (r_add (F.t 7 rfl) (F.k (.int .i64 1))) fun a F => ?_
    refine mv F rfl fun a F => ?_
    refine wpList_nil ?_
    replace F := F.only [7, 5, 1, 2, 6] (l' := [(7, _), (5, _), (1, _), (2, _), (6, _)]) rfl
    try dsimp only at j_26
    obtain rfl := Option.some.inj j_26
    exact ⟨_, rfl, F.only [1, 2, 5, 6, 7] rfl, H.px1.px0⟩
   rw [if_neg c28] at j_26
   rw [decide_eq_false c28] at F
   refine wp_cond_false (F.ev rfl) ?_
   refine wp_exit ?_
   try dsimp only at j_26
   obtain rfl := Option.some.inj j_26
   obtain rfl := u_26 _ rfl
   repeat (with_reducible refine exT ?_)
   with_reducible refine exB ?_
   exact ⟨_, _, rfl, F.only [5] rfl, H⟩
  rintro a w ⟨x25, x26, rfl, F, H⟩
  try dsimp only at k_20 F H
  refine rg ?_
  refine mv F rfl fun a F => ?_
  refine as_ F rfl fun a F => ?_
  refine rgend ?_
  refine wp_ret ?_
  try dsimp only at k_20
  obtain rfl := Option.some.inj k_20
  exact RET _ _ (ret1 F rfl rfl ⟨_, rfl, _, _, rfl, rfl, H⟩)
 rintro v w ⟨x19, x20, rfl, rfl, H⟩ a F
 try dsimp only at h F H
 refine mv F rfl fun a F => ?_
 obtain ⟨o_35, k_35, h⟩ := Option.bind_eq_some_iff.1 h
 refine ls (call F Try.func100 (R := fun v w => ∃ (x34 : Int) (x35 : Int), (x34, x35) = o_35 ∧ v = .int .i64 x34 ∧ Hp w0 (rd kByte A0_ c0_ a0 :: ps) (cel g4 [.int .i64 x35] 3 :: cel g2 [.int .i64 0, .int .i64 0, .int .i64 0, .int .i64 0, .slice none 0 0] 53 :: cel g1 [.slice A0_ a0.length c0_] 29 :: fs) w) (args := [.int .i64 1, pt g1, pt g4]) (cap := [pt g1, pt g4]) ?_ rfl rfl ?_)
 ·refine enter [.int .i64 1, pt g1, pt g4] 21 Try.func100 fun Q a NP RET NRM F => ?_
  replace NP := np NP
  refine rg ?_
  refine as_ F (v := .int .i64 0) rfl fun a F => ?_
  refine rgend ?_
  refine rg ?_
  refine as_ F (v := .int .i64 0) rfl fun a F => ?_
  refine rgend ?_
  refine wp_seq ?_
  refine rg ?_
  refine mv F rfl fun a F => ?_
  refine mv F (v := .int .i64 0) rfl fun a F => ?_
  refine rgend ?_
  obtain ⟨o_41, k_41, k_35⟩ := Option.bind_eq_some_iff.1 k_35
  refine cut (fun a w => ∃ (x40 : Int) (x41 : Int), (x40, x41) = o_41 ∧ Fr 21 [] [(5, .int .i64 x40)] a ∧ Hp w0 (rd kByte A0_ c0_ a0 :: ps) (cel g4 [.int .i64 x41] 3 :: cel g2 [.int .i64 0, .int .i64 0, .int .i64 0, .int .i64 0, .slice none 0 0] 53 :: cel g1 [.slice A0_ a0.length c0_] 29 :: fs) w) (wp_block ?_) ?_
  ·refine wloop (sector_Get_b2 a0) (fun (s : Int × Int × Int) a w => Fr 21 [] [(1, pt g1), (2, pt g4), (5, .int .i64 s.1), (6, .int .i64 1), (7, .int .i64 s.2.1)] a ∧ Hp w0 (rd kByte A0_ c0_ a0 :: ps) (cel g4 [.int .i64 s.2.2] 3 :: cel g2 [.int .i64 0, .int .i64 0, .int .i64 0, .int .i64 0, .slice none 0 0] 53 :: cel g1 [.slice A0_ a0.length c0_] 29 :: fs) w) k_41 ⟨F.only [1, 2, 5, 6, 7] rfl, H⟩ ?_
   rintro ⟨x37, x38, x39⟩ a w q_41 j_41 u_41 ⟨F, H⟩
   unfold sector_Get_b2 at j_41
   try dsimp only at j_41 F H
   refine rg ?_
   refine qw F (r_lt (F.t 7 rfl) (F.t 6 rfl)) fun a F => ?_
   refine rgend ?_
   refine wp_seq ?_
   by_cases c43 : x38 < 1
   ·rw [if_pos c43] at j_41
    rw [decide_eq_true c43] at F
    refine wp_cond_true (F.ev rfl) ?_
    refine wp_skip ?_
    refine wp_seq ?_
    refine wp_block ?_
    refine rg ?_
    refine mv F rfl fun a F => ?_
    refine qw F (r_shl (F.t 9 rfl) (F.k (.int .u64 8)) (by decide)) fun a F => ?_
    refine qw F (r_ld (F.t 1 rfl) (cel_cell (o := 0) (H.cell 2 rfl) rfl) one29) fun a F => ?_
    refine qw F (r_ld (F.t 2 rfl) (cel_cell (o := 0) (H.cell 0 rfl) rfl) one3) fun a F => ?_
    obtain ⟨c44, j_41⟩ := guardO j_41
    obtain ⟨g45, o46, s47, hr, H⟩ := H.ix 0 0 rfl (F.t 11 rfl) (F.t 12 rfl) Try.underlying29 sz5 (by decide) c44.1 c44.2
    obtain ⟨rfl, hr48⟩ := H.says_byte 1 rfl
    refine qw F (hr _ _ _ _ _ _) fun a F => ?_
    refine qw F (r_ld (F.t 13 rfl) (range_cell (j := 0) (H.range 0 rfl) rfl) one5) fun a F => ?_
    refine qw F (r_ci (F.t 14 rfl) Try.underlying2 Try.underlying5) fun a F => ?_
    refine qw F (r_or (F.t 10 rfl) (F.t 15 rfl)) fun a F => ?_
    refine as_ F rfl fun a F => ?_
    refine rgend ?_
    replace F := F.only [5, 1, 2, 6, 7] (l' := [(5, _), (1, _), (2, _), (6, _), (7, _)]) rfl
    refine wp_region_lit ?_
    refine qw F (r_ld (F.t 2 rfl) (cel_cell (o := 0) (H.cell 0 rfl) rfl) one3) fun a F => ?_
    refine qw F (r_add (F.t 17 rfl) (F.k (.int .i64 1))) fun a F => ?_
    refine stF F [.int .i64 (IntKind.i64.wrap (x39 + 1))] H rfl rfl sz3 fun w a H F => ?_
    refine wpList_nil ?_
    refine wp_region_lit ?_
    refine qw F (r_add (F.t 7 rfl) (F.k (.int .i64 1))) fun a F => ?_
    refine mv F rfl fun a F => ?_
    refine wpList_nil ?_
    replace F := F.only [7, 5, 1, 2, 6] (l' := [(7, _), (5, _), (1, _), (2, _), (6, _)]) rfl
    try dsimp only at j_41
    obtain rfl := Option.some.inj j_41
    exact ⟨_, rfl, F.only [1, 2, 5, 6, 7] rfl, H.px1.px0⟩
   rw [if_neg c43] at j_41
   rw [decide_eq_false c43] at F
   refine wp_cond_false (F.ev rfl) ?_
   refine wp_exit ?_
   try dsimp only at j_41
   obtain rfl := Option.some.inj j_41
   obtain rfl := u_41 _ rfl
   repeat (with_reducible refine exT ?_)
   with_reducible refine exB ?_
   exact ⟨_, _, rfl, F.only [5] rfl, H⟩
  rintro a w ⟨x40, x41, rfl, F, H⟩
  try dsimp only at k_35 F H
  refine rg ?_
  refine mv F rfl fun a F => ?_
  refine as_ F rfl fun a F => ?_
  refine rgend ?_
  refine wp_ret ?_
  try dsimp only at k_35
  obtain rfl := Option.some.inj k_35
  exact RET _ _ (ret1 F rfl rfl ⟨_, rfl, _, _, rfl, rfl, H⟩)
 rintro v w ⟨x34, x35, rfl, rfl, H⟩ a F
 try dsimp only at h F H
 refine mv F rfl fun a F => ?_
 obtain ⟨o_50, k_50, h⟩ := Option.bind_eq_some_iff.1 h
 refine ls (call F Try.func100 (R := fun v w => ∃ (x49 : Int) (x50 : Int), (x49, x50) = o_50 ∧ v = .int .i64 x49 ∧ Hp w0 (rd kByte A0_ c0_ a0 :: ps) (cel g4 [.int .i64 x50] 3 :: cel g2 [.int .i64 0, .int .i64 0, .int .i64 0, .int .i64 0, .slice none 0 0] 53 :: cel g1 [.slice A0_ a0.length c0_] 29 :: fs) w) (args := [.int .i64 2, pt g1, pt g4]) (cap := [pt g1, pt g4]) ?_ rfl rfl ?_)
 ·refine enter [.int .i64 2, pt g1, pt g4] 21 Try.func100 fun Q a NP RET NRM F => ?_
  replace NP := np NP
  refine rg ?_
  refine as_ F (v := .int .i64 0) rfl fun a F => ?_
  refine rgend ?_
  refine rg ?_
  refine as_ F (v := .int .i64 0) rfl fun a F => ?_
  refine rgend ?_
  refine wp_seq ?_
  refine rg ?_
  refine mv F rfl fun a F => ?_
  refine mv F (v := .int .i64 0) rfl fun a F => ?_
  refine rgend ?_
  obtain ⟨o_56, k_56, k_50⟩ := Option.bind_eq_some_iff.1 k_50
  refine cut (fun a w => ∃ (x55 : Int) (x56 : Int), (x55, x56) = o_56 ∧ Fr 21 [] [(5, .int .i64 x55)] a ∧ Hp w0 (rd kByte A0_ c0_ a0 :: ps) (cel g4 [.int .i64 x56] 3 :: cel g2 [.int .i64 0, .int .i64 0, .int .i64 0, .int .i64 0, .slice none 0 0] 53 :: cel g1 [.slice A0_ a0.length c0_] 29 :: fs) w) (wp_block ?_) ?_
  ·refine wloop (sector_Get_b3 a0) (fun (s : Int × Int × Int) a w => Fr 21 [] [(1, pt g1), (2, pt g4), (5, .int .i64 s.1), (6, .int .i64 2), (7, .int .i64 s.2.1)] a ∧ Hp w0 (rd kByte A0_ c0_ a0 :: ps) (cel g4 [.int .i64 s.2.2] 3 :: cel g2 [.int .i64 0, .int .i64 0, .int .i64 0, .int .i64 0, .slice none 0 0] 53 :: cel g1 [.slice A0_ a0.length c0_] 29 :: fs) w) k_56 ⟨F.only [1, 2, 5, 6, 7] rfl, H⟩ ?_
   rintro ⟨x52, x53, x54⟩ a w q_56 j_56 u_56 ⟨F, H⟩
   unfold sector_Get_b3 at j_56
   try dsimp only at j_56 F H
   refine rg ?_
   refine qw F (r_lt (F.t 7 rfl) (F.t 6 rfl)) fun a F => ?_
   refine rgend ?_
   refine wp_seq ?_
   by_cases c58 : x53 < 2
   ·rw [if_pos c58] at j_56
    rw [decide_eq_true c58] at F
    refine wp_cond_true (F.ev rfl) ?_
    refine wp_skip ?_
    refine wp_seq ?_
    refine wp_block ?_
    refine rg ?_
    refine mv F rfl fun a F => ?_
    refine qw F (r_shl (F.t 9 rfl) (F.k (.int .u64 8)) (by decide)) fun a F => ?_
    refine qw F (r_ld (F.t 1 rfl) (cel_cell (o := 0) (H.cell 2 rfl) rfl) one29) fun a F => ?_
    refine qw F (r_ld (F.t 2 rfl) (cel_cell (o := 0) (H.cell 0 rfl) rfl) one3) fun a F => ?_
    obtain ⟨c59, j_56⟩ := guardO j_56
    obtain ⟨g60, o61, s62, hr, H⟩ := H.ix 0 0 rfl (F.t 11 rfl) (F.t 12 rfl) Try.underlying29 sz5 (by decide) c59.1 c59.2
    obtain ⟨rfl, hr63⟩ := H.says_byte 1 rfl
    refine qw F (hr _ _ _ _ _ _) fun a F => ?_
    refine qw F (r_ld (F.t 13 rfl) (range_cell (j := 0) (H.range 0 rfl) rfl) one5) fun a F => ?_
    refine qw F (r_ci (F.t 14 rfl) Try.underlying2 Try.underlying5) fun a F => ?_
    refine qw F (r_or (F.t 10 rfl) (F.t 15 rfl)) fun a F => ?_
    refine as_ F rfl fun a F => ?_
    refine rgend ?_
    replace F := F.only [5, 1, 2, 6, 7] (l' := [(5, _), (1, _), (2, _), (6, _), (7, _)]) rfl
    refine wp_region_lit ?_
    refine qw F (r_ld (F.t 2 rfl) (cel_cell (o := 0) (H.cell 0 rfl) rfl) one3) fun a F => ?_
    refine qw F (r_add (F.t 17 rfl) (F.k (.int .i64 1))) fun a F => ?_
    refine stF F [.int .i64 (IntKind.i64.wrap (x54 + 1))] H rfl rfl sz3 fun w a H F => ?_
    refine wpList_nil ?_
    refine wp_region_lit ?_
    refine qw F (r_add (F.t 7 rfl) (F.k (.int .i64 1))) fun a F => ?_
    refine mv F rfl fun a F => ?_
    refine wpList_nil ?_
    replace F := F.only [7, 5, 1, 2, 6] (l' := [(7, _), (5, _), (1, _), (2, _), (6, _)]) rfl
    try dsimp only at j_56
    obtain rfl := Option.some.inj j_56
    exact ⟨_, rfl, F.only [1, 2, 5, 6, 7] rfl, H.px1.px0⟩
   rw [if_neg c58] at j_56
   rw [decide_eq_false c58] at F
   refine wp_cond_false (F.ev rfl) ?_
   refine wp_exit ?_
   try dsimp only at j_56
   obtain rfl := Option.some.inj j_56
   obtain rfl := u_56 _ rfl
   repeat (with_reducible refine exT ?_)
   with_reducible refine exB ?_
   exact ⟨_, _, rfl, F.only [5] rfl, H⟩
  rintro a w ⟨x55, x56, rfl, F, H⟩
  try dsimp only at k_50 F H
  refine rg ?_
  refine mv F rfl fun a F => ?_
  refine as_ F rfl fun a F => ?_
  refine rgend ?_
  refine wp_ret ?_
  try dsimp only at k_50
  obtain rfl := Option.some.inj k_50
  exact RET _ _ (ret1 F rfl rfl ⟨_, rfl, _, _, rfl, rfl, H⟩)
 rintro v w ⟨x49, x50, rfl, rfl, H⟩ a F
 try dsimp only at h F H
 refine ls (lbd F (vs := [(0, .int .i64 x5), (1, .int .i64 x19), (2, .int .i64 x34), (3, .int .i64 x49)]) (cs := [.int .i64 x5, .int .i64 x19, .int .i64 x34, .int .i64 x49, .slice none 0 0]) rfl (fun w => by kernel_rfl) fun a F => ?_)
 refine ls (lal F H ti53 (cs := [.int .i64 0, .int .i64 0, .int .i64 0, .int .i64 0, .slice none 0 0]) rfl fun g64 w a H F => ?_)
 refine stF F [.int .i64 x5, .int .i64 x19, .int .i64 x34, .int .i64 x49, .slice none 0 0] H rfl rfl sz53 fun w a H F => ?_
 refine rgend ?_
 replace F := F.only [6, 5, 2, 1] (l' := [(6, _), (5, _), (2, _), (1, _)]) rfl
 refine wp_seq ?_
 replace H := H.drew
 have HS := H.fx1
 refine dr (fun w => Hp w0 (rd kByte A0_ c0_ a0 :: ps) (cel g64 [.int .i64 x5, .int .i64 x19, .int .i64 x34, .int .i64 x49, .slice none 0 0] 53 :: cel g2 [.int .i64 0, .int .i64 0, .int .i64 0, .int .i64 0, .slice none 0 0] 53 :: cel g1 [.slice A0_ a0.length c0_] 29 :: fs) w) _ (by kernel_rfl) ?_ (n := 11)
 refine dk 0 F rfl NP HS (fun w S => (r_fa (off := 4) (F.t 6 rfl) fa53_4)) fun a F => ?_
 refine dk 1 F rfl NP HS (fun w S => (r_ld (F.t 21 rfl) (cel_cell (o := 4) (S.cell 0 rfl) rfl) one29)) fun a F => ?_
 refine dk 2 F rfl NP HS (fun w S => (r_ld (F.t 1 rfl) (cel_cell (o := 0) (S.cell 2 rfl) rfl) one29)) fun a F => ?_
 refine dk 3 F rfl NP HS (fun w S => (r_mv (F.t 5 rfl))) fun a F => ?_
 obtain ⟨o_66, k_66, h⟩ := Option.bind_eq_some_iff.1 h
 refine d1 4 rfl (by kernel_rfl) (call F Try.func100 (R := fun v w => ∃ (x65 : Int) (x66 : Int), (x65, x66) = o_66 ∧ v = .int .i64 x65 ∧ Hp w0 (rd kByte A0_ c0_ a0 :: ps) (cel g4 [.int .i64 x66] 3 :: cel g2 [.int .i64 0, .int .i64 0, .int .i64 0, .int .i64 0, .slice none 0 0] 53 :: cel g1 [.slice A0_ a0.length c0_] 29 :: cel g64 [.int .i64 x5, .int .i64 x19, .int .i64 x34, .int .i64 x49, .slice none 0 0] 53 :: fs) w) (args := [.int .i64 1, pt g1, pt g4]) (cap := [pt g1, pt g4]) ?_ rfl rfl ?_)
 ·refine enter [.int .i64 1, pt g1, pt g4] 21 Try.func100 fun Q a NP RET NRM F => ?_
  replace NP := np NP
  refine rg ?_
  refine as_ F (v := .int .i64 0) rfl fun a F => ?_
  refine rgend ?_
  refine rg ?_
  refine as_ F (v := .int .i64 0) rfl fun a F => ?_
  refine rgend ?_
  refine wp_seq ?_
  refine rg ?_
  refine mv F rfl fun a F => ?_
  refine mv F (v := .int .i64 0) rfl fun a F => ?_
  refine rgend ?_
  obtain ⟨o_72, k_72, k_66⟩ := Option.bind_eq_some_iff.1 k_66
  refine cut (fun a w => ∃ (x71 : Int) (x72 : Int), (x71, x72) = o_72 ∧ Fr 21 [] [(5, .int .i64 x71)] a ∧ Hp w0 (rd kByte A0_ c0_ a0 :: ps) (cel g4 [.int .i64 x72] 3 :: cel g2 [.int .i64 0, .int .i64 0, .int .i64 0, .int .i64 0, .slice none 0 0] 53 :: cel g1 [.slice A0_ a0.length c0_] 29 :: cel g64 [.int .i64 x5, .int .i64 x19, .int .i64 x34, .int .i64 x49, .slice none 0 0] 53 :: fs) w) (wp_block ?_) ?_
  ·refine wloop (sector_Get_b4 a0) (fun (s : Int × Int × Int) a w => Fr 21 [] [(1, pt g1), (2, pt g4), (5, .int .i64 s.1), (6, .int .i64 1), (7, .int .i64 s.2.1)] a ∧ Hp w0 (rd kByte A0_ c0_ a0 :: ps) (cel g4 [.int .i64 s.2.2] 3 :: cel g2 [.int .i64 0, .int .i64 0, .int .i64 0, .int .i64 0, .slice none 0 0] 53 :: cel g1 [.slice A0_ a0.length c0_] 29 :: cel g64 [.int .i64 x5, .int .i64 x19, .int .i64 x34, .int .i64 x49, .slice none 0 0] 53 :: fs) w) k_72 ⟨F.only [1, 2, 5, 6, 7] rfl, H.f3.f3.f3⟩ ?_
   rintro ⟨x68, x69, x70⟩ a w q_72 j_72 u_72 ⟨F, H⟩
   unfold sector_Get_b4 at j_72
   try dsimp only at j_72 F H
   refine rg ?_
   refine qw F (r_lt (F.t 7 rfl) (F.t 6 rfl)) fun a F => ?_
   refine rgend ?_
   refine wp_seq ?_
   by_cases c74 : x69 < 1
   ·rw [if_pos c74] at j_72
    rw [decide_eq_true c74] at F
    refine wp_cond_true (F.ev rfl) ?_
    refine wp_skip ?_
    refine wp_seq ?_
    refine wp_block ?_
    refine rg ?_
    refine mv F rfl fun a F => ?_
    refine qw F (r_shl (F.t 9 rfl) (F.k (.int .u64 8)) (by decide)) fun a F => ?_
    refine qw F (r_ld (F.t 1 rfl) (cel_cell (o := 0) (H.cell 2 rfl) rfl) one29) fun a F => ?_
    refine qw F (r_ld (F.t 2 rfl) (cel_cell (o := 0) (H.cell 0 rfl) rfl) one3) fun a F => ?_
    obtain ⟨c75, j_72⟩ := guardO j_72
    obtain ⟨g76, o77, s78, hr, H⟩ := H.ix 0 0 rfl (F.t 11 rfl) (F.t 12 rfl) Try.underlying29 sz5 (by decide) c75.1 c75.2
    obtain ⟨rfl, hr79⟩ := H.says_byte 1 rfl
    refine qw F (hr _ _ _ _ _ _) fun a F => ?_
    refine qw F (r_ld (F.t 13 rfl) (range_cell (j := 0) (H.range 0 rfl) rfl) one5) fun a F => ?_
    refine qw F (r_ci (F.t 14 rfl) Try.underlying2 Try.underlying5) fun a F => ?_
    refine qw F (r_or (F.t 10 rfl) (F.t 15 rfl)) fun a F => ?_
    refine as_ F rfl fun a F => ?_
    refine rgend ?_
    replace F := F.only [5, 1, 2, 6, 7] (l' := [(5, _), (1, _), (2, _), (6, _), (7, _)]) rfl
    refine wp_region_lit ?_
    refine qw F (r_ld (F.t 2 rfl) (cel_cell (o := 0) (H.cell 0 rfl) rfl) one3) fun a F => ?_
    refine qw F (r_add (F.t 17 rfl) (F.k (.int .i64 1))) fun a F => ?_
    refine stF F [.int .i64 (IntKind.i64.wrap (x70 + 1))] H rfl rfl sz3 fun w a H F => ?_
    refine wpList_nil ?_
    refine wp_region_lit ?_
    refine qw F (r_add (F.t 7 rfl) (F.k (.int .i64 1))) fun a F => ?_
    refine mv F rfl fun a F => ?_
    refine wpList_nil ?_
    replace F := F.only [7, 5, 1, 2, 6] (l' := [(7, _), (5, _), (1, _), (2, _), (6, _)]) rfl
    try dsimp only at j_72
    obtain rfl := Option.some.inj j_72
    exact ⟨_, rfl, F.only [1, 2, 5, 6, 7] rfl, H.px1.px0⟩
   rw [if_neg c74] at j_72
   rw [decide_eq_false c74] at F
   refine wp_cond_false (F.ev rfl) ?_
   refine wp_exit ?_
   try dsimp only at j_72
   obtain rfl := Option.some.inj j_72
   obtain rfl := u_72 _ rfl
   repeat (with_reducible refine exT ?_)
   with_reducible refine exB ?_
   exact ⟨_, _, rfl, F.only [5] rfl, H⟩
  rintro a w ⟨x71, x72, rfl, F, H⟩
  try dsimp only at k_66 F H
  refine rg ?_
  refine mv F rfl fun a F => ?_
  refine as_ F rfl fun a F => ?_
  refine rgend ?_
  refine wp_ret ?_
  try dsimp only at k_66
  obtain rfl := Option.some.inj k_66
  exact RET _ _ (ret1 F rfl rfl ⟨_, rfl, _, _, rfl, rfl, H⟩)
 rintro v w ⟨x65, x66, rfl, rfl, H⟩ a F
 try dsimp only at h F H
 have HS := H.f2.f2.f3.fx3
 refine kg _ HS (fun w S => S) ?_
 refine dk 5 F rfl NP HS (fun w S => (r_min (F.t 25 rfl) (F.k (.int .i64 50)))) fun a F => ?_
 refine dk 6 F rfl NP HS (fun w S => (r_add (F.k (.int .i64 14)) (F.t 26 rfl))) fun a F => ?_
 obtain ⟨c80, h⟩ := guardO h
 obtain ⟨A81, c82, hr, H⟩ := Hp.sl (kd := kByte) (jl := (14 : Int)) (jh := IntKind.i64.wrap (14 + (min x65 50))) H 0 rfl (F.t 23 rfl) Try.underlying29 sz5 (.inr ⟨_, _, rfl, (F.k (.int .i64 14))⟩) (.inr ⟨_, _, rfl, (F.t 27 rfl)⟩) c80
 have HS := H.f2.f2.f3.fx3
 refine dmoreH HS (fun w S => S.px0) ?_
 refine dk 7 F rfl NP HS (fun w S => (hr _ _ _ _ _ _)) fun a F => ?_
 replace H := H.nilOwn kByte 5
 obtain ⟨c83, h⟩ := guardO h
 obtain ⟨A84, c85, _, hr, H⟩ := Hp.appendRd (kd := kByte) (xs := []) (ys := ((a0.take (IntKind.i64.wrap (14 + (min x65 50))).toNat).drop ((14 : Int)).toNat)) (H) 0 rfl (F.t 22 rfl) (F.t 28 rfl) Try.underlying29 ti5 rfl (by decide) (by decide) c83
 rw [List.nil_append] at hr H
 refine d1 8 rfl (by kernel_rfl) (qv F (hr _ _ _ _ _) fun a F => ?_)
 have HS := H.f3.f3.f4.fx4.fx3
 refine kg _ HS (fun w S => S) ?_
 refine dk 9 F rfl NP HS (fun w S => (r_fa (off := 4) (F.t 6 rfl) fa53_4)) fun a F => ?_
 obtain ⟨_, hr, H⟩ := Hp.store (t := 29) (o := 4) (n := 1) (vs := [.slice A84 (((a0.take (IntKind.i64.wrap (14 + (min x65 50))).toNat).drop ((14 : Int)).toNat)).length c85]) (cs' := [.int .i64 x5, .int .i64 x19, .int .i64 x34, .int .i64 x49, .slice A84 (((a0.take (IntKind.i64.wrap (14 + (min x65 50))).toNat).drop ((14 : Int)).toNat)).length c85]) (H.f3.f3.f3.f3.f4) (F.t 30 rfl) (F.t 29 rfl) rfl sz29 rfl (Nat.le_of_ble_eq_true rfl) rfl rfl
 refine d1 10 rfl (by kernel_rfl) (qn F (.inl rfl) (hr _ _ _ _) fun a F => ?_)
 have HS := H.fx1
 refine kga (by kernel_rfl) HS ?_
 refine ddone (by kernel_rfl) ?_
 replace F := F.only [6, 2, 1] (l' := [(6, _), (2, _), (1, _)]) rfl
 iterate 2 refine wp_seq ?_
 obtain ⟨o_86, k_86, h⟩ := Option.bind_eq_some_iff.1 h
 refine cut (fun a w => ∃ (x86 : Bool), x86 = o_86 ∧ Fr 44 [] [(2, pt g2), (6, pt g64), (41, .bool x86)] a ∧ Hp w0 (rd kByte A84 c85 (((a0.take (IntKind.i64.wrap (14 + (min x65 50))).toNat).drop ((14 : Int)).toNat)) :: ps) (cel g2 [.int .i64 0, .int .i64 0, .int .i64 0, .int .i64 0, .slice none 0 0] 53 :: cel g64 [.int .i64 x5, .int .i64 x19, .int .i64 x34, .int .i64 x49, .slice A84 (((a0.take (IntKind.i64.wrap (14 + (min x65 50))).toNat).drop ((14 : Int)).toNat)).length c85] 53 :: fs) w) ?_ ?_
 ·skip
  replace H := H.drew
  have HS := H.fx1
  refine dr (fun w => Hp w0 (rd kByte A81 c82 (((a0.take (IntKind.i64.wrap (14 + (min x65 50))).toNat).drop ((14 : Int)).toNat)) :: rd kByte A0_ c0_ a0 :: ps) (cel g64 [.int .i64 x5, .int .i64 x19, .int .i64 x34, .int .i64 x49, .slice A84 (((a0.take (IntKind.i64.wrap (14 + (min x65 50))).toNat).drop ((14 : Int)).toNat)).length c85] 53 :: cel g4 [.int .i64 x66] 3 :: cel g2 [.int .i64 0, .int .i64 0, .int .i64 0, .int .i64 0, .slice none 0 0] 53 :: cel g1 [.slice A0_ a0.length c0_] 29 :: fs) w) _ (by kernel_rfl) ?_ (n := 11)
  refine dk 0 F rfl NP HS (fun w S => (r_ldA (F.t 6 rfl) (cel_range (o := 0) (n := 5) (vs := [.int .i64 x5, .int .i64 x19, .int .i64 x34, .int .i64 x49, .slice A84 (((a0.take (IntKind.i64.wrap (14 + (min x65 50))).toNat).drop ((14 : Int)).toNat)).length c85]) (S.cell 0 rfl) rfl) agg53 rfl)) fun a F => ?_
  replace H := (H.f4.f4.f4.f3.f4).freeze
  obtain ⟨x88, e89, k_86⟩ := Option.bind_eq_some_iff.1 k_86
  try dsimp only at k_86
  refine d1 1 rfl (by kernel_rfl) (call F Try.func93 (sector_Right_ok (a0 := (⟨x5, x19, x34, x49, ((a0.take (IntKind.i64.wrap (14 + (min x65 50))).toNat).drop ((14 : Int)).toNat)⟩ : api_Sector)) (H.p0) e89) rfl rfl fun v w hR a F => ?_)
  obtain ⟨rfl, H⟩ := hR
  have HS := H
  refine kg _ HS (fun w S => S.px0) ?_
  refine dk 2 F rfl NP HS (fun w S => (r_not (F.t 32 rfl))) fun a F => ?_
  refine dk 3 F rfl NP HS (fun w S => (r_mv (F.t 33 rfl))) fun a F => ?_
  by_cases c90 : x88 = true
  ·rw [if_pos c90] at k_86
   rw [c90] at F
   refine dk 4 F rfl NP HS (fun w S => (r_ldA (F.t 6 rfl) (cel_range (o := 0) (n := 5) (vs := [.int .i64 x5, .int .i64 x19, .int .i64 x34, .int .i64 x49, .slice A84 (((a0.take (IntKind.i64.wrap (14 + (min x65 50))).toNat).drop ((14 : Int)).toNat)).length c85]) (S.cell 0 rfl) rfl) agg53 rfl)) fun a F => ?_
   refine dk 6 F rfl NP HS (fun w S => (r_ld (F.t 1 rfl) (cel_cell (o := 0) (S.cell 3 rfl) rfl) one29)) fun a F => ?_
   obtain ⟨c91, k_86⟩ := guardO k_86
   obtain ⟨g92, o93, hr, H⟩ := H.sarrA (n := 64) 2 rfl (F.t 37 rfl) Try.underlying89 c91 (by decide)
   have HS := H
   refine dmoreH HS (fun w S => S.px0) ?_
   refine dk 7 F rfl NP HS (fun w S => (hr _ _ _ _ _ _)) fun a F => ?_
   refine dk 8 F rfl NP HS (fun w S => (r_ldA (F.t 38 rfl) (S.range 0 rfl) agg89 (arr_len ((Arr.of 64 (a0.take 64)))))) fun a F => ?_
   obtain ⟨x94, e95, k_86⟩ := Option.bind_eq_some_iff.1 k_86
   try dsimp only at k_86
   refine d1 5 rfl (by kernel_rfl) (call F Try.func94 (sector_bytes_ok (a0 := (⟨x5, x19, x34, x49, ((a0.take (IntKind.i64.wrap (14 + (min x65 50))).toNat).drop ((14 : Int)).toNat)⟩ : api_Sector)) (H.p1) e95) rfl rfl fun v w hR a F => ?_)
   obtain ⟨rfl, H⟩ := hR
   have HS := H
   refine kg _ HS (fun w S => S) ?_
   refine dk 9 F rfl NP HS (fun w S => (r_ane (F.t 36 rfl) (F.t 39 rfl) Try.underlying89 Try.underlying5 sz5 (by kernel_rfl) (by kernel_rfl) x94.h ((Arr.of 64 (a0.take 64))).h)) fun a F => ?_
   refine dk 10 F rfl NP HS (fun w S => (r_pickF (F.t 34 rfl) (F.t 40 rfl))) fun a F => ?_
   refine ddone (by kernel_rfl) ?_
   replace F := F.only [41, 6, 2] (l' := [(41, _), (6, _), (2, _)]) rfl
   try dsimp only at k_86
   obtain rfl := Option.some.inj k_86
   exact ⟨_, rfl, F.only [2, 6, 41] rfl, H.px3.px2.px0.f2.fx3.fx2⟩
  rw [if_neg c90] at k_86
  rw [Bool.eq_false_iff.2 c90] at F
  refine df 4 F rfl NP HS fun a F => ?_
  refine df 5 F rfl NP HS fun a F => ?_
  refine df 6 F rfl NP HS fun a F => ?_
  refine df 7 F rfl NP HS fun a F => ?_
  refine df 8 F rfl NP HS fun a F => ?_
  refine df 9 F rfl NP HS fun a F => ?_
  refine dk 10 F rfl NP HS (fun w S => (r_pickT (F.t 34 rfl) (F.k (.bool true)))) fun a F => ?_
  refine ddone (by kernel_rfl) ?_
  replace F := F.only [41, 6, 2] (l' := [(41, _), (6, _), (2, _)]) rfl
  try dsimp only at k_86
  obtain rfl := Option.some.inj k_86
  exact ⟨_, rfl, F.only [2, 6, 41] rfl, H.px2.px1.f2.fx3.fx2⟩
 rintro a w ⟨x86, rfl, F, H⟩
 try dsimp only at h F H
 by_cases c96 : x86 = true
 ·rw [if_pos c96] at h
  rw [c96] at F
  refine wp_cond_true (F.ev rfl) ?_
  refine rg ?_
  refine ls (lbd F (vs := []) (cs := [.int .i64 0, .int .i64 0, .int .i64 0, .int .i64 0, .slice none 0 0]) rfl (fun w => by kernel_rfl) fun a F => ?_)
  refine stF F [.int .i64 0, .int .i64 0, .int .i64 0, .int .i64 0, .slice none 0 0] H rfl rfl sz53 fun w a H F => ?_
  refine as_ F (v := .bool false) rfl fun a F => ?_
  refine rgend ?_
  refine wp_ret ?_
  replace H := H.nilRd kByte
  try dsimp only at h
  obtain ⟨rfl, rfl⟩ := Prod.mk.inj (Option.some.inj h)
  exact RET _ _ (retC2 F rfl rfl rfl (ldvA (cel_range (o := 0) (n := 5) (vs := [.int .i64 0, .int .i64 0, .int .i64 0, .int .i64 0, .slice none 0 0]) (H.cell 0 rfl) rfl) agg53 rfl) ⟨_, rfl, none, 0, rfl, H.px1.fx1.fx0⟩)
 rw [if_neg c96] at h
 rw [Bool.eq_false_iff.2 c96] at F
 refine wp_cond_false (F.ev rfl) ?_
 refine wp_skip ?_
 refine rg ?_
 refine qw F (r_ldA (F.t 6 rfl) (cel_range (o := 0) (n := 5) (vs := [.int .i64 x5, .int .i64 x19, .int .i64 x34, .int .i64 x49, .slice A84 (((a0.take (IntKind.i64.wrap (14 + (min x65 50))).toNat).drop ((14 : Int)).toNat)).length c85]) (H.cell 1 rfl) rfl) agg53 rfl) fun a F => ?_
 refine stF F [.int .i64 x5, .int .i64 x19, .int .i64 x34, .int .i64 x49, .slice A84 (((a0.take (IntKind.i64.wrap (14 + (min x65 50))).toNat).drop ((14 : Int)).toNat)).length c85] H rfl rfl sz53 fun w a H F => ?_
 refine as_ F (v := .bool true) rfl fun a F => ?_
 refine rgend ?_
 refine wp_ret ?_
 try dsimp only at h
 obtain ⟨rfl, rfl⟩ := Prod.mk.inj (Option.some.inj h)
 exact RET _ _ (retC2 F rfl rfl rfl (ldvA (cel_range (o := 0) (n := 5) (vs := [.int .i64 x5, .int .i64 x19, .int .i64 x34, .int .i64 x49, .slice A84 (((a0.take (IntKind.i64.wrap (14 + (min x65 50))).toNat).drop ((14 : Int)).toNat)).length c85]) (H.cell 0 rfl) rfl) agg53 rfl) ⟨_, rfl, A84, c85, rfl, H.fx1.fx0⟩)
def disk_New_f (a0 : Int) : Option (Option disk_Disk) :=
 (if a0 < 0 then some none else (if a0 > 4096 then some none else (if 0 ≤ a0 ∧ 64 * a0 ≤ 281474976710656 then some (((some ((⟨List.replicate (a0 : Int).toNat (Arr.zero 64), [], [], (-1)⟩ : disk_Disk))))) else none)))
theorem disk_New_ok {w0 w : World} {ps : List PF} {fs : List SF} {a0 : Int} {r0 : Option disk_Disk} (H : Hp w0 ps fs w) (h : disk_New_f a0 = some r0) :
  Calls Try.prog 11 [.int .i64 a0].toArray w fun e w' => ∃ v, e = .returned v ∧ (match r0 with | none => v = .pointer none ∧ Hp w0 ps fs w' | some x => ∃ g : Nat, v = .pointer (some ⟨g, 0, none⟩) ∧ Hp w0 ps (obj_disk_Disk g x :: fs) w') := by
 refine enter [.int .i64 a0] 14 Try.func11 fun Q a NP RET NRM F => ?_
 replace NP := np NP
 unfold disk_New_f at h
 refine rg ?_
 refine as_ F (v := .pointer none) rfl fun a F => ?_
 refine rgend ?_
 refine wp_seq ?_
 refine rg ?_
 refine mv F rfl fun a F => ?_
 refine qw F (r_lt (F.t 3 rfl) (F.k (.int .i64 0))) fun a F => ?_
 refine mv F rfl fun a F => ?_
 by_cases c1 : a0 < 0
 ·rw [if_pos c1] at h
  rw [decide_eq_true c1] at F
  iterate 2 refine of_ F fun a F => ?_
  refine qw F (r_pickT (F.t 5 rfl) (F.k (.bool true))) fun a F => ?_
  refine rgend ?_
  replace F := F.only [8, 0] (l' := [(8, _), (0, _)]) rfl
  refine wp_cond_true (F.ev rfl) ?_
  refine rg ?_
  refine as_ F (v := .pointer none) rfl fun a F => ?_
  refine rgend ?_
  refine wp_ret ?_
  try dsimp only at h
  obtain rfl := Option.some.inj h
  exact RET _ _ (ret1 F rfl rfl ⟨_, rfl, rfl, H⟩)
 rw [if_neg c1] at h
 rw [decide_eq_false c1] at F
 refine mv F rfl fun a F => ?_
 refine qw F (r_gt (F.t 6 rfl) (F.k (.int .i64 4096))) fun a F => ?_
 refine qw F (r_pickF (F.t 5 rfl) (F.t 7 rfl)) fun a F => ?_
 refine rgend ?_
 replace F := F.only [8, 0] (l' := [(8, _), (0, _)]) rfl
 by_cases c2 : a0 > 4096
 ·rw [if_pos c2] at h
  rw [decide_eq_true c2] at F
  refine wp_cond_true (F.ev rfl) ?_
  refine rg ?_
  refine as_ F (v := .pointer none) rfl fun a F => ?_
  refine rgend ?_
  refine wp_ret ?_
  try dsimp only at h
  obtain rfl := Option.some.inj h
  exact RET _ _ (ret1 F rfl rfl ⟨_, rfl, rfl, H⟩)
 rw [if_neg c2] at h
 rw [decide_eq_false c2] at F
 refine wp_cond_false (F.ev rfl) ?_
 refine wp_skip ?_
 refine rg ?_
 refine mv F rfl fun a F => ?_
 obtain ⟨c4, h⟩ := guardO h
 obtain ⟨g3, _, hr, H⟩ := Hp.makeA (q := 64) H (F.t 9 rfl) (F.t 9 rfl) Try.underlying67 ti90 rfl (by decide) (by decide) c4.1 c4.2
 refine qw F (hr _ _ _ _ _) fun a F => ?_
 refine ls (lmi F H fun g5 w a H F => ?_)
 refine ls (lbd F (vs := [(0, .slice (some ⟨g3, 0, none⟩) (List.replicate (a0 : Int).toNat (Arr.zero 64)).length ((List.replicate (a0 : Int).toNat (Arr.zero 64)).length)), (1, .map (some g5)), (3, .int .i64 (-1))]) (cs := [.slice (some ⟨g3, 0, none⟩) (List.replicate (a0 : Int).toNat (Arr.zero 64)).length ((List.replicate (a0 : Int).toNat (Arr.zero 64)).length), .map (some g5), .slice none 0 0, .int .i64 (-1)]) rfl (fun w => by kernel_rfl) fun a F => ?_)
 refine ls (lbox F H rfl (cs := [.slice (some ⟨g3, 0, none⟩) (List.replicate (a0 : Int).toNat (Arr.zero 64)).length ((List.replicate (a0 : Int).toNat (Arr.zero 64)).length), .map (some g5), .slice none 0 0, .int .i64 (-1)]) rfl fun g6 w a H F => ?_)
 refine as_ F rfl fun a F => ?_
 refine rgend ?_
 replace F := F.only [2] (l' := [(2, _)]) rfl
 refine wp_ret ?_
 replace H := H.nilOwn k_disk_write 92
 replace H := Hp.closeO_disk_Disk (x := (⟨List.replicate (a0 : Int).toNat (Arr.zero 64), [], [], (-1)⟩ : disk_Disk)) (H.f2.f1.f3.f3)
 try dsimp only at h
 obtain rfl := Option.some.inj h
 exact RET _ _ (ret1 F rfl rfl ⟨_, rfl, g6, rfl, H⟩)
def disk_Disk_Fuse_f (a0 : disk_Disk) (a1 : Int) : Option (disk_Disk) :=
 some (((⟨a0.sectors, a0.torn, a0.pending, max a1 (-1)⟩ : disk_Disk)))
theorem disk_Disk_Fuse_ok {w0 w : World} {ps : List PF} {fs : List SF} {a0 : disk_Disk} {g0_ : Nat} {a1 : Int} {s0 : disk_Disk} (H : Hp w0 ps (obj_disk_Disk g0_ a0 :: fs) w) (h : disk_Disk_Fuse_f a0 a1 = some s0) :
  Calls Try.prog 35 [pt g0_, .int .i64 a1].toArray w fun e w' => ∃ v, e = .returned v ∧ v = .tuple #[] ∧ Hp w0 ps (obj_disk_Disk g0_ s0 :: fs) w' := by
 refine enter [pt g0_, .int .i64 a1] 9 Try.func35 fun Q a NP RET NRM F => ?_
 replace NP := np NP
 unfold disk_Disk_Fuse_f at h
 refine wp_region_lit ?_
 iterate 2 refine mv F rfl fun a F => ?_
 refine qw F (r_max (F.t 5 rfl) (F.k (.int .i64 (-1)))) fun a F => ?_
 refine qw F (r_nc (F.t 4 rfl)) fun a F => ?_
 refine qw F (r_fa (off := 3) (F.t 7 rfl) fa71_3) fun a F => ?_
 obtain ⟨A1, c2, A4, c5, g3, H⟩ := Hp.openO_disk_Disk (H)
 refine sto F [.int .i64 (max a1 (-1))] [.slice A1 a0.sectors.length c2, .map (some g3), .slice A4 a0.pending.length c5, .int .i64 (max a1 (-1))] H rfl rfl sz3 fun w a H F => ?_
 refine wpList_nil ?_
 replace F := F.only [] (l' := []) rfl
 replace H := Hp.closeO_disk_Disk (x := (⟨a0.sectors, a0.torn, a0.pending, max a1 (-1)⟩ : disk_Disk)) (H)
 try dsimp only at h
 obtain rfl := Option.some.inj h
 exact NRM _ _ (ret0 F rfl ⟨_, rfl, rfl, H⟩)
def disk_Disk_Write_f (a0 : disk_Disk) (a1 : Int) (a2 : List Int) : Option (Int × disk_Disk) :=
 (((if a0.fuse = 0 then some (42, a0) else (((if (a2.length : Int) ≠ 64 then some ((1, (⟨a0.sectors, a0.torn, a0.pending, max (IntKind.i64.wrap (a0.fuse - 1)) (-1)⟩ : disk_Disk))) else ((disk_Disk_there_f ((⟨a0.sectors, a0.torn, a0.pending, max (IntKind.i64.wrap (a0.fuse - 1)) (-1)⟩ : disk_Disk)) a1).bind fun x17 => (if x17 = true then (if 64 ≤ a2.length then (if ((((⟨a0.sectors, a0.torn, a0.pending, max (IntKind.i64.wrap (a0.fuse - 1)) (-1)⟩ : disk_Disk)).pending).length + 1) * 72 ≤ 140737488355328 then some ((0, (⟨((⟨a0.sectors, a0.torn, a0.pending, max (IntKind.i64.wrap (a0.fuse - 1)) (-1)⟩ : disk_Disk)).sectors, ((⟨a0.sectors, a0.torn, a0.pending, max (IntKind.i64.wrap (a0.fuse - 1)) (-1)⟩ : disk_Disk)).torn, ((((⟨a0.sectors, a0.torn, a0.pending, max (IntKind.i64.wrap (a0.fuse - 1)) (-1)⟩ : disk_Disk)).pending) ++ ([(⟨a1, (Arr.of 64 (a2.take 64))⟩ : disk_write)])), ((⟨a0.sectors, a0.torn, a0.pending, max (IntKind.i64.wrap (a0.fuse - 1)) (-1)⟩ : disk_Disk)).fuse⟩ : disk_Disk))) else none) else none) else some ((3, (⟨a0.sectors, a0.torn, a0.pending, max (IntKind.i64.wrap (a0.fuse - 1)) (-1)⟩ : disk_Disk)))))) : Option (Int × disk_Disk)).bind fun (x13, x14) => some (x13, x14))) : Option (Int × disk_Disk)).bind fun (x4, x5) => some (x4, x5))
theorem disk_Disk_Write_ok {w0 w : World} {ps : List PF} {fs : List SF} {a0 : disk_Disk} {g0_ : Nat} {a1 : Int} {a2 : List Int} {A2_ : Option Addr} {c2_ : Nat} {r0 : Int} {s0 : disk_Disk} (H : Hp w0 (rd kByte A2_ c2_ a2 :: ps) (obj_disk_Disk g0_ a0 :: fs) w) (h : disk_Disk_Write_f a0 a1 a2 = some (r0, s0)) :
  Calls Try.prog 26 [pt g0_, .int .i64 a1, .slice A2_ a2.length c2_].toArray w fun e w' => ∃ v, e = .returned v ∧ v = .int .i64 r0 ∧ Hp w0 ps (obj_disk_Disk g0_ s0 :: fs) w' := by
 refine enter [pt g0_, .int .i64 a1, .slice A2_ a2.length c2_] 10 Try.func26 fun Q a NP RET NRM F => ?_
 replace NP := np NP
 unfold disk_Disk_Write_f at h
 refine rg ?_
 refine ls (lbox F H rfl (cs := [pt g0_]) rfl fun g1 w a H F => ?_)
 refine ls (lbox F H rfl (cs := [.int .i64 a1]) rfl fun g2 w a H F => ?_)
 refine ls (lbox F H rfl (cs := [.slice A2_ a2.length c2_]) rfl fun g3 w a H F => ?_)
 refine as_ F (v := .int .i64 0) rfl fun a F => ?_
 refine rgend ?_
 replace F := F.only [5, 4, 3] (l' := [(5, _), (4, _), (3, _)]) rfl
 refine rg ?_
 refine qw F (r_ld (F.t 3 rfl) (cel_cell (o := 0) (H.cell 2 rfl) rfl) one24) fun a F => ?_
 refine qw F (r_mf (f' := #[]) (c' := #[pt g3, pt g1, pt g2]) (by simp) (by rw [List.map_toArray]; exact congrArg _ (F.evs rfl))) fun a F => ?_
 obtain ⟨o_5, k_5, h⟩ := Option.bind_eq_some_iff.1 h
 refine ls (call F Try.func51 (R := fun v w => ∃ (x4 : Int) (x5 : disk_Disk), (x4, x5) = o_5 ∧ v = .int .i64 x4 ∧ Hp w0 (rd kByte A2_ c2_ a2 :: ps) (cel g2 [.int .i64 a1] 3 :: obj_disk_Disk g0_ x5 :: cel g1 [pt g0_] 24 :: cel g3 [.slice A2_ a2.length c2_] 29 :: fs) w) (args := [pt g0_, .func (.func 52) #[] #[pt g3, pt g1, pt g2]]) (cap := []) ?_ rfl rfl ?_)
 ·refine enter [pt g0_, .func (.func 52) #[] #[pt g3, pt g1, pt g2]] 21 Try.func51 fun Q a NP RET NRM F => ?_
  replace NP := np NP
  refine rg ?_
  refine as_ F (v := .int .i64 0) rfl fun a F => ?_
  refine rgend ?_
  refine wp_seq ?_
  refine rg ?_
  refine mv F rfl fun a F => ?_
  refine qw F (r_nc (F.t 5 rfl)) fun a F => ?_
  refine qw F (r_fa (off := 3) (F.t 6 rfl) fa71_3) fun a F => ?_
  obtain ⟨A7, c8, A10, c11, g9, H⟩ := Hp.openO_disk_Disk (H.f2.f2.f2.f3)
  refine qw F (r_ld (F.t 7 rfl) (cel_cell (o := 3) (H.cell 0 rfl) rfl) one3) fun a F => ?_
  refine qw F (r_eq (F.t 8 rfl) (F.k (.int .i64 0))) fun a F => ?_
  refine rgend ?_
  replace F := F.only [9, 0, 1] (l' := [(9, _), (0, _), (1, _)]) rfl
  by_cases c12 : a0.fuse = 0
  ·rw [if_pos c12] at k_5
   rw [decide_eq_true c12] at F
   refine wp_cond_true (F.ev rfl) ?_
   refine rg ?_
   refine as_ F (v := .int .i64 42) rfl fun a F => ?_
   refine rgend ?_
   refine wp_ret ?_
   replace H := Hp.closeO_disk_Disk (x := a0) (H)
   try dsimp only at k_5
   obtain rfl := Option.some.inj k_5
   exact RET _ _ (ret1 F rfl rfl ⟨_, rfl, _, _, rfl, rfl, H.f1.f3.f2.f3⟩)
  rw [if_neg c12] at k_5
  rw [decide_eq_false c12] at F
  refine wp_cond_false (F.ev rfl) ?_
  refine wp_skip ?_
  refine rg ?_
  iterate 2 refine mv F rfl fun a F => ?_
  refine qw F (r_nc (F.t 11 rfl)) fun a F => ?_
  refine qw F (r_fa (off := 3) (F.t 12 rfl) fa71_3) fun a F => ?_
  refine qw F (r_ld (F.t 13 rfl) (cel_cell (o := 3) (H.cell 0 rfl) rfl) one3) fun a F => ?_
  refine qw F (r_sub (F.t 14 rfl) (F.k (.int .i64 1))) fun a F => ?_
  refine qw F (r_max (F.t 15 rfl) (F.k (.int .i64 (-1)))) fun a F => ?_
  refine qw F (r_nc (F.t 10 rfl)) fun a F => ?_
  refine qw F (r_fa (off := 3) (F.t 17 rfl) fa71_3) fun a F => ?_
  refine sto F [.int .i64 (max (IntKind.i64.wrap (a0.fuse - 1)) (-1))] [.slice A7 a0.sectors.length c8, .map (some g9), .slice A10 a0.pending.length c11, .int .i64 (max (IntKind.i64.wrap (a0.fuse - 1)) (-1))] H rfl rfl sz3 fun w a H F => ?_
  refine rgend ?_
  replace F := F.only [1] (l' := [(1, _)]) rfl
  refine rg ?_
  refine mv F rfl fun a F => ?_
  obtain ⟨o_14, k_14, k_5⟩ := Option.bind_eq_some_iff.1 k_5
  refine ls (call F Try.func52 (R := fun v w => ∃ (x13 : Int) (x14 : disk_Disk), (x13, x14) = o_14 ∧ v = .int .i64 x13 ∧ Hp w0 (rd kByte A2_ c2_ a2 :: ps) (cel g2 [.int .i64 a1] 3 :: obj_disk_Disk g0_ x14 :: cel g1 [pt g0_] 24 :: cel g3 [.slice A2_ a2.length c2_] 29 :: fs) w) (args := [pt g3, pt g1, pt g2]) (cap := [pt g3, pt g1, pt g2]) ?_ rfl rfl ?_)
  ·refine enter [pt g3, pt g1, pt g2] 27 Try.func52 fun Q a NP RET NRM F => ?_
   replace NP := np NP
   refine rg ?_
   refine as_ F (v := .int .i64 0) rfl fun a F => ?_
   refine rgend ?_
   refine wp_seq ?_
   refine wp_block ?_
   refine rg ?_
   refine qw F (r_ld (F.t 0 rfl) (cel_cell (o := 0) (H.cell 4 rfl) rfl) one29) fun a F => ?_
   refine qw F (r_len (F.t 5 rfl) Try.underlying29) fun a F => ?_
   refine qw F (r_ne (F.t 6 rfl) (F.k (.int .i64 64))) fun a F => ?_
   refine as_ F rfl fun a F => ?_
   refine rgend ?_
   replace F := F.only [4, 0, 1, 2] (l' := [(4, _), (0, _), (1, _), (2, _)]) rfl
   by_cases c16 : (a2.length : Int) ≠ 64
   ·rw [if_pos c16] at k_14
    rw [decide_eq_true c16] at F
    refine wp_cond_true (F.ev rfl) ?_
    refine rg ?_
    refine as_ F (v := .int .i64 1) rfl fun a F => ?_
    refine rgend ?_
    replace F := F.only [3] (l' := [(3, _)]) rfl
    refine wp_ret ?_
    replace H := Hp.closeO_disk_Disk (x := (⟨a0.sectors, a0.torn, a0.pending, max (IntKind.i64.wrap (a0.fuse - 1)) (-1)⟩ : disk_Disk)) (H)
    try dsimp only at k_14
    obtain rfl := Option.some.inj k_14
    exact RET _ _ (ret1 F rfl rfl ⟨_, rfl, _, _, rfl, rfl, H.f1.f3.f2.f3⟩)
   rw [if_neg c16] at k_14
   rw [decide_eq_false c16] at F
   refine wp_cond_false (F.ev rfl) ?_
   refine rg ?_
   refine qw F (r_ld (F.t 1 rfl) (cel_cell (o := 0) (H.cell 6 rfl) rfl) one24) fun a F => ?_
   refine qw F (r_ld (F.t 2 rfl) (cel_cell (o := 0) (H.cell 5 rfl) rfl) one3) fun a F => ?_
   replace H := Hp.closeO_disk_Disk (x := (⟨a0.sectors, a0.torn, a0.pending, max (IntKind.i64.wrap (a0.fuse - 1)) (-1)⟩ : disk_Disk)) (H)
   obtain ⟨x17, e18, k_14⟩ := Option.bind_eq_some_iff.1 k_14
   try dsimp only at k_14
   refine ls (call F Try.func53 (disk_Disk_there_ok (H) e18) rfl rfl fun v w hR a F => ?_)
   obtain ⟨rfl, H⟩ := hR
   refine qw F (r_not (F.t 11 rfl)) fun a F => ?_
   refine as_ F rfl fun a F => ?_
   refine rgend ?_
   replace F := F.only [8, 0, 1, 2] (l' := [(8, _), (0, _), (1, _), (2, _)]) rfl
   by_cases c19 : x17 = true
   ·rw [if_pos c19] at k_14
    rw [c19] at F
    refine wp_cond_false (F.ev rfl) ?_
    refine wp_skip ?_
    refine wp_seq ?_
    obtain ⟨A20, c21, A23, c24, g22, H⟩ := Hp.openO_disk_Disk (H)
    replace H := H.drew
    have HS := H.fx2.fx1
    refine dr (fun w => Hp w0 (rd kByte A2_ c2_ a2 :: ps) (cel g0_ [.slice A20 (((⟨a0.sectors, a0.torn, a0.pending, max (IntKind.i64.wrap (a0.fuse - 1)) (-1)⟩ : disk_Disk)).sectors).length c21, .map (some g22), .slice A23 (((⟨a0.sectors, a0.torn, a0.pending, max (IntKind.i64.wrap (a0.fuse - 1)) (-1)⟩ : disk_Disk)).pending).length c24, .int .i64 (((⟨a0.sectors, a0.torn, a0.pending, max (IntKind.i64.wrap (a0.fuse - 1)) (-1)⟩ : disk_Disk)).fuse)] 71 :: imap g22 (((⟨a0.sectors, a0.torn, a0.pending, max (IntKind.i64.wrap (a0.fuse - 1)) (-1)⟩ : disk_Disk)).torn) :: cel g3 [.slice A2_ a2.length c2_] 29 :: cel g2 [.int .i64 a1] 3 :: cel g1 [pt g0_] 24 :: fs) w) _ (by kernel_rfl) ?_ (n := 15)
    refine dk 0 F rfl NP HS (fun w S => (r_ld (F.t 1 rfl) (cel_cell (o := 0) (S.cell 4 rfl) rfl) one24)) fun a F => ?_
    refine dk 1 F rfl NP HS (fun w S => (r_ld (F.t 1 rfl) (cel_cell (o := 0) (S.cell 4 rfl) rfl) one24)) fun a F => ?_
    refine dk 2 F rfl NP HS (fun w S => (r_nc (F.t 14 rfl))) fun a F => ?_
    refine dk 3 F rfl NP HS (fun w S => (r_fa (off := 2) (F.t 15 rfl) fa71_2)) fun a F => ?_
    refine dk 4 F rfl NP HS (fun w S => (r_ld (F.t 16 rfl) (cel_cell (o := 2) (S.cell 0 rfl) rfl) one69)) fun a F => ?_
    refine dk 5 F rfl NP HS (fun w S => (r_ld (F.t 2 rfl) (cel_cell (o := 0) (S.cell 3 rfl) rfl) one3)) fun a F => ?_
    refine dk 6 F rfl NP HS (fun w S => (r_ld (F.t 0 rfl) (cel_cell (o := 0) (S.cell 2 rfl) rfl) one29)) fun a F => ?_
    obtain ⟨c25, k_14⟩ := guardO k_14
    obtain ⟨g26, o27, hr, H⟩ := H.sarrA (n := 64) 0 rfl (F.t 19 rfl) Try.underlying90 c25 (by decide)
    have HS := H.fx2.fx1
    refine dmoreH HS (fun w S => S.px0) ?_
    refine dk 7 F rfl NP HS (fun w S => (hr _ _ _ _ _ _)) fun a F => ?_
    refine dk 8 F rfl NP HS (fun w S => (r_ldA (F.t 20 rfl) (S.range 0 rfl) agg90 (arr_len ((Arr.of 64 (a2.take 64)))))) fun a F => ?_
    refine dk 9 F rfl NP HS (fun w S => (r_bd F (vs := [(0, .int .i64 a1), (1, .agg (arrOf ((Arr.of 64 (a2.take 64))).l).toArray)]) (cs := (.int .i64 a1 :: arrOf ((Arr.of 64 (a2.take 64))).l)) rfl (fun w => by exact bdW ti92 rfl Try.underlying92 (fun w => by kernel_rfl)))) fun a F => ?_
    refine d1 10 rfl (by kernel_rfl) (lbs F H (e := 92) (vs := [(0, .agg (.int .i64 a1 :: arrOf ((Arr.of 64 (a2.take 64))).l).toArray)]) (cs := (.int .i64 a1 :: arrOf ((Arr.of 64 (a2.take 64))).l)) rfl (fun w => by exact bsA (cs := (.int .i64 a1 :: arrOf ((Arr.of 64 (a2.take 64))).l)) Try.underlying69 ti92 rfl (by decide) (len_cons (arr_len ((Arr.of 64 (a2.take 64)))))) fun g28 w a H F => ?_)
    have HS := H.fx3.fx2.fx0
    refine kg _ HS (fun w S => S) ?_
    obtain ⟨c29, k_14⟩ := guardO k_14
    obtain ⟨A30, c31, _, hr, H⟩ := Hp.appendCelL (kd := k_disk_write) (xs := ((⟨a0.sectors, a0.torn, a0.pending, max (IntKind.i64.wrap (a0.fuse - 1)) (-1)⟩ : disk_Disk)).pending) (ys := [(⟨a1, (Arr.of 64 (a2.take 64))⟩ : disk_write)]) (H.f7.f7.f7.f7.f6.f6.f6.f7) (F.t 17 rfl) (F.t 23 rfl) Try.underlying69 ti92 rfl (by decide) (by decide) (all_cons rfl (arr_all _)) ((SayL.one (kd := k_disk_write) (c1 := (.int .i64 a1 :: arrOf ((Arr.of 64 (a2.take 64))).l)) (y := (⟨a1, (Arr.of 64 (a2.take 64))⟩ : disk_write)) (fun Z hp => rfl))) c29
    refine d1 11 rfl (by kernel_rfl) (qv F (hr _ _ _ _ _) fun a F => ?_)
    have HS := H.fx2.fx0
    refine kg _ HS (fun w S => S) ?_
    refine dk 12 F rfl NP HS (fun w S => (r_nc (F.t 13 rfl))) fun a F => ?_
    refine dk 13 F rfl NP HS (fun w S => (r_fa (off := 2) (F.t 25 rfl) fa71_2)) fun a F => ?_
    obtain ⟨_, hr, H⟩ := Hp.store (t := 69) (o := 2) (n := 1) (vs := [.slice A30 (((((⟨a0.sectors, a0.torn, a0.pending, max (IntKind.i64.wrap (a0.fuse - 1)) (-1)⟩ : disk_Disk)).pending) ++ ([(⟨a1, (Arr.of 64 (a2.take 64))⟩ : disk_write)]))).length c31]) (cs' := [.slice A20 (((⟨a0.sectors, a0.torn, a0.pending, max (IntKind.i64.wrap (a0.fuse - 1)) (-1)⟩ : disk_Disk)).sectors).length c21, .map (some g22), .slice A30 (((((⟨a0.sectors, a0.torn, a0.pending, max (IntKind.i64.wrap (a0.fuse - 1)) (-1)⟩ : disk_Disk)).pending) ++ ([(⟨a1, (Arr.of 64 (a2.take 64))⟩ : disk_write)]))).length c31, .int .i64 (((⟨a0.sectors, a0.torn, a0.pending, max (IntKind.i64.wrap (a0.fuse - 1)) (-1)⟩ : disk_Disk)).fuse)]) (H.f6.f6.f6.f6.f6.f5.f6) (F.t 26 rfl) (F.t 24 rfl) rfl sz69 rfl (Nat.le_of_ble_eq_true rfl) rfl rfl
    refine d1 14 rfl (by kernel_rfl) (qn F (.inl rfl) (hr _ _ _ _) fun a F => ?_)
    have HS := H.fx2.fx1
    refine kga (by kernel_rfl) HS ?_
    refine ddone (by kernel_rfl) ?_
    replace F := F.only [] (l' := []) rfl
    refine rg ?_
    refine as_ F (v := .int .i64 0) rfl fun a F => ?_
    refine rgend ?_
    refine wp_ret ?_
    replace H := Hp.closeO_disk_Disk (x := (⟨((⟨a0.sectors, a0.torn, a0.pending, max (IntKind.i64.wrap (a0.fuse - 1)) (-1)⟩ : disk_Disk)).sectors, ((⟨a0.sectors, a0.torn, a0.pending, max (IntKind.i64.wrap (a0.fuse - 1)) (-1)⟩ : disk_Disk)).torn, ((((⟨a0.sectors, a0.torn, a0.pending, max (IntKind.i64.wrap (a0.fuse - 1)) (-1)⟩ : disk_Disk)).pending) ++ ([(⟨a1, (Arr.of 64 (a2.take 64))⟩ : disk_write)])), ((⟨a0.sectors, a0.torn, a0.pending, max (IntKind.i64.wrap (a0.fuse - 1)) (-1)⟩ : disk_Disk)).fuse⟩ : disk_Disk)) (H.f6.f6.f6.f6.f5.f6.f6)
    try dsimp only at k_14
    obtain rfl := Option.some.inj k_14
    exact RET _ _ (ret1 F rfl rfl ⟨_, rfl, _, _, rfl, rfl, H.px0.f1.f3.f2.f3⟩)
   rw [if_neg c19] at k_14
   rw [Bool.eq_false_iff.2 c19] at F
   refine wp_cond_true (F.ev rfl) ?_
   refine rg ?_
   refine as_ F (v := .int .i64 3) rfl fun a F => ?_
   refine rgend ?_
   replace F := F.only [3] (l' := [(3, _)]) rfl
   refine wp_ret ?_
   try dsimp only at k_14
   obtain rfl := Option.some.inj k_14
   exact RET _ _ (ret1 F rfl rfl ⟨_, rfl, _, _, rfl, rfl, H.f1.f3.f2.f3⟩)
  rintro v w ⟨x13, x14, rfl, rfl, H⟩ a F
  try dsimp only at k_5 F H
  refine as_ F rfl fun a F => ?_
  refine rgend ?_
  refine wp_ret ?_
  try dsimp only at k_5
  obtain rfl := Option.some.inj k_5
  exact RET _ _ (ret1 F rfl rfl ⟨_, rfl, _, _, rfl, rfl, H⟩)
 rintro v w ⟨x4, x5, rfl, rfl, H⟩ a F
 try dsimp only at h F H
 refine as_ F rfl fun a F => ?_
 refine rgend ?_
 replace F := F.only [6] (l' := [(6, _)]) rfl
 refine wp_ret ?_
 try dsimp only at h
 obtain ⟨rfl, rfl⟩ := Prod.mk.inj (Option.some.inj h)
 exact RET _ _ (ret1 F rfl rfl ⟨_, rfl, rfl, H.px0.fx3.fx2.fx0⟩)
def disk_Disk_Sync_b0 (a0 : disk_Disk) : (Int × (List (Arr 64)) × (List (Int × Int))) → Option (Int × (List (Arr 64)) × (List (Int × Int)) ⊕ (List (Arr 64)) × (List (Int × Int)))
 | (x15, x16, x19) => (if x15 < (a0.pending.length : Int) then (if 0 ≤ x15 ∧ x15 < (a0.pending.length : Int) then ((some () : Option (Unit)).bind fun _ => ((some () : Option (Unit)).bind fun _ => (if 0 ≤ (a0.pending.getD (x15 : Int).toNat (⟨0, (Arr.zero 64)⟩ : disk_write)).at_ ∧ (a0.pending.getD (x15 : Int).toNat (⟨0, (Arr.zero 64)⟩ : disk_write)).at_ < (x16.length : Int) then some (.inl (IntKind.i64.wrap (x15 + 1), (x16.set ((a0.pending.getD (x15 : Int).toNat (⟨0, (Arr.zero 64)⟩ : disk_write)).at_ : Int).toNat ((a0.pending.getD (x15 : Int).toNat (⟨0, (Arr.zero 64)⟩ : disk_write)).b)), (mdel x19 ((a0.pending.getD (x15 : Int).toNat (⟨0, (Arr.zero 64)⟩ : disk_write)).at_)))) else none))) else none) else some (.inr (x16, x19)))
def disk_Disk_Sync_f (a0 : disk_Disk) : Option (Int × disk_Disk) :=
 (((if a0.fuse = 0 then some (42, a0) else ((((((lp (disk_Disk_Sync_b0 a0) (0, a0.sectors, a0.torn)).bind fun (x20, x23) => some (((⟨x20, x23, [], max (IntKind.i64.wrap (a0.fuse - 1)) (-1)⟩ : disk_Disk)))) : Option (disk_Disk)).bind fun x13 => some x13) : Option (disk_Disk)).bind fun x11 => some (0, x11))) : Option (Int × disk_Disk)).bind fun (x2, x3) => some (x2, x3))
theorem disk_Disk_Sync_ok {w0 w : World} {ps : List PF} {fs : List SF} {a0 : disk_Disk} {g0_ : Nat} {r0 : Int} {s0 : disk_Disk} (H : Hp w0 ps (obj_disk_Disk g0_ a0 :: fs) w) (h : disk_Disk_Sync_f a0 = some (r0, s0)) :
  Calls Try.prog 29 [pt g0_].toArray w fun e w' => ∃ v, e = .returned v ∧ v = .int .i64 r0 ∧ Hp w0 ps (obj_disk_Disk g0_ s0 :: fs) w' := by
 refine enter [pt g0_] 6 Try.func29 fun Q a NP RET NRM F => ?_
 replace NP := np NP
 unfold disk_Disk_Sync_f at h
 refine rg ?_
 refine ls (lbox F H rfl (cs := [pt g0_]) rfl fun g1 w a H F => ?_)
 refine as_ F (v := .int .i64 0) rfl fun a F => ?_
 refine rgend ?_
 refine rg ?_
 refine qw F (r_ld (F.t 1 rfl) (cel_cell (o := 0) (H.cell 0 rfl) rfl) one24) fun a F => ?_
 refine qw F (r_mf (f' := #[]) (c' := #[pt g1]) (by simp) (by rw [List.map_toArray]; exact congrArg _ (F.evs rfl))) fun a F => ?_
 obtain ⟨o_3, k_3, h⟩ := Option.bind_eq_some_iff.1 h
 refine ls (call F Try.func51 (R := fun v w => ∃ (x2 : Int) (x3 : disk_Disk), (x2, x3) = o_3 ∧ v = .int .i64 x2 ∧ Hp w0 ps (obj_disk_Disk g0_ x3 :: cel g1 [pt g0_] 24 :: fs) w) (args := [pt g0_, .func (.func 57) #[] #[pt g1]]) (cap := []) ?_ rfl rfl ?_)
 ·refine enter [pt g0_, .func (.func 57) #[] #[pt g1]] 21 Try.func51 fun Q a NP RET NRM F => ?_
  replace NP := np NP
  refine rg ?_
  refine as_ F (v := .int .i64 0) rfl fun a F => ?_
  refine rgend ?_
  refine wp_seq ?_
  refine rg ?_
  refine mv F rfl fun a F => ?_
  refine qw F (r_nc (F.t 5 rfl)) fun a F => ?_
  refine qw F (r_fa (off := 3) (F.t 6 rfl) fa71_3) fun a F => ?_
  obtain ⟨A5, c6, A8, c9, g7, H⟩ := Hp.openO_disk_Disk (H.f1)
  refine qw F (r_ld (F.t 7 rfl) (cel_cell (o := 3) (H.cell 0 rfl) rfl) one3) fun a F => ?_
  refine qw F (r_eq (F.t 8 rfl) (F.k (.int .i64 0))) fun a F => ?_
  refine rgend ?_
  replace F := F.only [9, 0, 1] (l' := [(9, _), (0, _), (1, _)]) rfl
  by_cases c10 : a0.fuse = 0
  ·rw [if_pos c10] at k_3
   rw [decide_eq_true c10] at F
   refine wp_cond_true (F.ev rfl) ?_
   refine rg ?_
   refine as_ F (v := .int .i64 42) rfl fun a F => ?_
   refine rgend ?_
   refine wp_ret ?_
   replace H := Hp.closeO_disk_Disk (x := a0) (H)
   try dsimp only at k_3
   obtain rfl := Option.some.inj k_3
   exact RET _ _ (ret1 F rfl rfl ⟨_, rfl, _, _, rfl, rfl, H⟩)
  rw [if_neg c10] at k_3
  rw [decide_eq_false c10] at F
  refine wp_cond_false (F.ev rfl) ?_
  refine wp_skip ?_
  refine rg ?_
  iterate 2 refine mv F rfl fun a F => ?_
  refine qw F (r_nc (F.t 11 rfl)) fun a F => ?_
  refine qw F (r_fa (off := 3) (F.t 12 rfl) fa71_3) fun a F => ?_
  refine qw F (r_ld (F.t 13 rfl) (cel_cell (o := 3) (H.cell 0 rfl) rfl) one3) fun a F => ?_
  refine qw F (r_sub (F.t 14 rfl) (F.k (.int .i64 1))) fun a F => ?_
  refine qw F (r_max (F.t 15 rfl) (F.k (.int .i64 (-1)))) fun a F => ?_
  refine qw F (r_nc (F.t 10 rfl)) fun a F => ?_
  refine qw F (r_fa (off := 3) (F.t 17 rfl) fa71_3) fun a F => ?_
  refine sto F [.int .i64 (max (IntKind.i64.wrap (a0.fuse - 1)) (-1))] [.slice A5 a0.sectors.length c6, .map (some g7), .slice A8 a0.pending.length c9, .int .i64 (max (IntKind.i64.wrap (a0.fuse - 1)) (-1))] H rfl rfl sz3 fun w a H F => ?_
  refine rgend ?_
  replace F := F.only [1] (l' := [(1, _)]) rfl
  refine rg ?_
  refine mv F rfl fun a F => ?_
  obtain ⟨o_11, k_11, k_3⟩ := Option.bind_eq_some_iff.1 k_3
  refine ls (call F Try.func57 (R := fun v w => ∃ (x11 : disk_Disk), x11 = o_11 ∧ v = .int .i64 0 ∧ Hp w0 ps (obj_disk_Disk g0_ x11 :: cel g1 [pt g0_] 24 :: fs) w) (args := [pt g1]) (cap := [pt g1]) ?_ rfl rfl ?_)
  ·refine enter [pt g1] 4 Try.func57 fun Q a NP RET NRM F => ?_
   replace NP := np NP
   refine rg ?_
   refine as_ F (v := .int .i64 0) rfl fun a F => ?_
   refine rgend ?_
   refine rg ?_
   refine qw F (r_ld (F.t 0 rfl) (cel_cell (o := 0) (H.cell 4 rfl) rfl) one24) fun a F => ?_
   obtain ⟨o_13, k_13, k_11⟩ := Option.bind_eq_some_iff.1 k_11
   refine ls (call F Try.func48 (R := fun v w => ∃ (x13 : disk_Disk), x13 = o_13 ∧ v = .tuple #[] ∧ Hp w0 ps (obj_disk_Disk g0_ x13 :: cel g1 [pt g0_] 24 :: fs) w) (args := [pt g0_, .func (.func 58) #[] #[], .func (.func 59) #[] #[]]) (cap := []) ?_ rfl rfl ?_)
   ·refine enter [pt g0_, .func (.func 58) #[] #[], .func (.func 59) #[] #[]] 52 Try.func48 fun Q a NP RET NRM F => ?_
    replace NP := np NP
    refine wp_seq ?_
    refine rg ?_
    refine mv F rfl fun a F => ?_
    refine qw F (r_nc (F.t 8 rfl)) fun a F => ?_
    refine qw F (r_fa (off := 2) (F.t 9 rfl) fa71_2) fun a F => ?_
    refine qw F (r_ld (F.t 10 rfl) (cel_cell (o := 2) (H.cell 0 rfl) rfl) one69) fun a F => ?_
    refine qw F (r_len (F.t 11 rfl) Try.underlying69) fun a F => ?_
    refine mv F (v := .int .i64 0) rfl fun a F => ?_
    refine rgend ?_
    obtain ⟨o_23, k_23, k_13⟩ := Option.bind_eq_some_iff.1 k_13
    refine cut (fun a w => ∃ (x20 : List (Arr 64)) (x23 : List (Int × Int)), (x20, x23) = o_23 ∧ ∃ (A21 : Option Addr) (c22 : Nat), Fr 52 [] [(0, pt g0_)] a ∧ Hp w0 ps (own (kA 64) 90 A21 c22 x20 :: own k_disk_write 92 A8 c9 a0.pending :: cel g0_ [.slice A21 x20.length c22, .map (some g7), .slice A8 a0.pending.length c9, .int .i64 (max (IntKind.i64.wrap (a0.fuse - 1)) (-1))] 71 :: cel g1 [pt g0_] 24 :: imap g7 x23 :: fs) w) (wp_block ?_) ?_
    ·refine wloop (disk_Disk_Sync_b0 a0) (fun (s : Int × (List (Arr 64)) × (List (Int × Int))) a w => ∃ (A17 : Option Addr) (c18 : Nat), Fr 52 [] [(0, pt g0_), (1, .func (.func 58) #[] #[]), (2, .func (.func 59) #[] #[]), (11, .slice A8 a0.pending.length c9), (12, .int .i64 (a0.pending.length : Int)), (13, .int .i64 s.1)] a ∧ Hp w0 ps (own (kA 64) 90 A17 c18 s.2.1 :: own k_disk_write 92 A8 c9 a0.pending :: cel g0_ [.slice A17 s.2.1.length c18, .map (some g7), .slice A8 a0.pending.length c9, .int .i64 (max (IntKind.i64.wrap (a0.fuse - 1)) (-1))] 71 :: cel g1 [pt g0_] 24 :: imap g7 s.2.2 :: fs) w) k_23 ⟨A5, c6, F.only [0, 1, 2, 11, 12, 13] rfl, H.f3.f4.f2.f4.f4⟩ ?_
     rintro ⟨x15, x16, x19⟩ a w q_23 j_23 u_23 ⟨A17, c18, F, H⟩
     unfold disk_Disk_Sync_b0 at j_23
     try dsimp only at j_23 F H
     refine rg ?_
     refine qw F (r_lt (F.t 13 rfl) (F.t 12 rfl)) fun a F => ?_
     refine rgend ?_
     refine wp_seq ?_
     by_cases c25 : x15 < (a0.pending.length : Int)
     ·rw [if_pos c25] at j_23
      rw [decide_eq_true c25] at F
      refine wp_cond_true (F.ev rfl) ?_
      refine wp_skip ?_
      refine wp_seq ?_
      refine wp_block ?_
      refine rg ?_
      refine mv F rfl fun a F => ?_
      obtain ⟨c26, j_23⟩ := guardO j_23
      obtain ⟨g27, s28, hA, hq30, hl29, H⟩ := H.ixOwn2 (⟨0, (Arr.zero 64)⟩ : disk_write) 1 rfl (F.t 11 rfl) (F.t 13 rfl) Try.underlying69 sz92 (by decide) c26.1 c26.2
      have hA31 := hA
      obtain ⟨rfl, H⟩ := H.open_disk_write 0 rfl
      refine qw F (hq30 _ _ _ _ _ _) fun a F => ?_
      refine qw F (r_ldA (F.t 16 rfl) hl29 agg92 (len_cons (arr_len ((a0.pending.getD (x15 : Int).toNat (⟨0, (Arr.zero 64)⟩ : disk_write)).b)))) fun a F => ?_
      refine ls (lal F H ti92 (cs := (.int .i64 0 :: arrOf (Arr.zero 64).l)) rfl fun g32 w a H F => ?_)
      refine as_ F rfl fun a F => ?_
      obtain ⟨_, hr, H⟩ := Hp.store (t := 92) (o := 0) (n := 65) (vs := (.int .i64 ((a0.pending.getD (x15 : Int).toNat (⟨0, (Arr.zero 64)⟩ : disk_write)).at_) :: arrOf ((a0.pending.getD (x15 : Int).toNat (⟨0, (Arr.zero 64)⟩ : disk_write)).b).l)) (cs' := (.int .i64 ((a0.pending.getD (x15 : Int).toNat (⟨0, (Arr.zero 64)⟩ : disk_write)).at_) :: arrOf ((a0.pending.getD (x15 : Int).toNat (⟨0, (Arr.zero 64)⟩ : disk_write)).b).l)) (H) (F.t 7 rfl) (F.t 17 rfl) rfl sz92 (len_cons (arr_len ((a0.pending.getD (x15 : Int).toNat (⟨0, (Arr.zero 64)⟩ : disk_write)).b))) (Nat.le_of_eq ((Nat.zero_add _).trans (len_cons (arr_len (Arr.zero 64))).symm)) (all_cons rfl (arr_all _)) (putAt_all ((len_cons (arr_len ((a0.pending.getD (x15 : Int).toNat (⟨0, (Arr.zero 64)⟩ : disk_write)).b))).trans (len_cons (arr_len (Arr.zero 64))).symm))
      refine ls (qn F (.inl rfl) (hr _ _ _ _) fun a F => ?_)
      refine rgend ?_
      replace F := F.only [6, 7, 0, 1, 2, 11, 12, 13] (l' := [(6, _), (7, _), (0, _), (1, _), (2, _), (11, _), (12, _), (13, _)]) rfl
      refine wp_block ?_
      refine rg ?_
      iterate 2 refine mv F rfl fun a F => ?_
      obtain ⟨o_32, k_32, j_23⟩ := Option.bind_eq_some_iff.1 j_23
      refine ls (call F Try.func59 (R := fun v w => () = o_32 ∧ v = .bool false ∧ Hp w0 ps (own k_disk_write 92 A8 c9 a0.pending :: own (kA 64) 90 A17 c18 x16 :: cel g32 (.int .i64 ((a0.pending.getD (x15 : Int).toNat (⟨0, (Arr.zero 64)⟩ : disk_write)).at_) :: arrOf ((a0.pending.getD (x15 : Int).toNat (⟨0, (Arr.zero 64)⟩ : disk_write)).b).l) 92 :: cel g0_ [.slice A17 x16.length c18, .map (some g7), .slice A8 a0.pending.length c9, .int .i64 (max (IntKind.i64.wrap (a0.fuse - 1)) (-1))] 71 :: cel g1 [pt g0_] 24 :: imap g7 x19 :: fs) w) (args := [.int .i64 x15]) (cap := []) ?_ rfl rfl ?_)
      ·refine enter [.int .i64 x15] 3 Try.func59 fun Q a NP RET NRM F => ?_
       replace NP := np NP
       refine rg ?_
       refine as_ F (v := .bool false) rfl fun a F => ?_
       refine rgend ?_
       refine rg ?_
       refine as_ F (v := .bool false) rfl fun a F => ?_
       refine rgend ?_
       refine wp_ret ?_
       try dsimp only at k_32
       obtain rfl := Option.some.inj k_32
       exact RET _ _ (ret1 F rfl rfl ⟨_, rfl, rfl, rfl, H.px0.f5.f5.f5.f3.f4.f5⟩)
      rintro v w ⟨rfl, rfl, H⟩ a F
      try dsimp only at j_23 F H
      refine as_ F rfl fun a F => ?_
      refine rgend ?_
      refine wp_cond_false (F.ev rfl) ?_
      refine rg ?_
      iterate 2 refine mv F rfl fun a F => ?_
      obtain ⟨o_33, k_33, j_23⟩ := Option.bind_eq_some_iff.1 j_23
      refine ls (call F Try.func58 (R := fun v w => () = o_33 ∧ v = .bool true ∧ Hp w0 ps (own k_disk_write 92 A8 c9 a0.pending :: own (kA 64) 90 A17 c18 x16 :: cel g32 (.int .i64 ((a0.pending.getD (x15 : Int).toNat (⟨0, (Arr.zero 64)⟩ : disk_write)).at_) :: arrOf ((a0.pending.getD (x15 : Int).toNat (⟨0, (Arr.zero 64)⟩ : disk_write)).b).l) 92 :: cel g0_ [.slice A17 x16.length c18, .map (some g7), .slice A8 a0.pending.length c9, .int .i64 (max (IntKind.i64.wrap (a0.fuse - 1)) (-1))] 71 :: cel g1 [pt g0_] 24 :: imap g7 x19 :: fs) w) (args := [.int .i64 x15]) (cap := []) ?_ rfl rfl ?_)
      ·refine enter [.int .i64 x15] 3 Try.func58 fun Q a NP RET NRM F => ?_
       replace NP := np NP
       refine rg ?_
       refine as_ F (v := .bool false) rfl fun a F => ?_
       refine rgend ?_
       refine rg ?_
       refine as_ F (v := .bool true) rfl fun a F => ?_
       refine rgend ?_
       refine wp_ret ?_
       try dsimp only at k_33
       obtain rfl := Option.some.inj k_33
       exact RET _ _ (ret1 F rfl rfl ⟨_, rfl, rfl, rfl, H⟩)
      rintro v w ⟨rfl, rfl, H⟩ a F
      try dsimp only at j_23 F H
      refine as_ F rfl fun a F => ?_
      refine rgend ?_
      replace F := F.only [29, 7, 0, 1, 2, 11, 12, 13] (l' := [(29, _), (7, _), (0, _), (1, _), (2, _), (11, _), (12, _), (13, _)]) rfl
      refine wp_cond_true (F.ev rfl) ?_
      refine wp_seq ?_
      replace H := H.drew
      have HS := H.fx1.fx0
      refine dr (fun w => Hp w0 ps (cel g32 (.int .i64 ((a0.pending.getD (x15 : Int).toNat (⟨0, (Arr.zero 64)⟩ : disk_write)).at_) :: arrOf ((a0.pending.getD (x15 : Int).toNat (⟨0, (Arr.zero 64)⟩ : disk_write)).b).l) 92 :: cel g0_ [.slice A17 x16.length c18, .map (some g7), .slice A8 a0.pending.length c9, .int .i64 (max (IntKind.i64.wrap (a0.fuse - 1)) (-1))] 71 :: cel g1 [pt g0_] 24 :: imap g7 x19 :: fs) w) _ (by kernel_rfl) ?_ (n := 10)
      refine dk 0 F rfl NP HS (fun w S => (r_mv (F.t 0 rfl))) fun a F => ?_
      refine dk 1 F rfl NP HS (fun w S => (r_nc (F.t 33 rfl))) fun a F => ?_
      refine dk 2 F rfl NP HS (fun w S => (r_fa (off := 0) (F.t 34 rfl) fa71_0)) fun a F => ?_
      refine dk 3 F rfl NP HS (fun w S => (r_ld (F.t 35 rfl) (cel_cell (o := 0) (S.cell 1 rfl) rfl) one67)) fun a F => ?_
      refine dk 4 F rfl NP HS (fun w S => (r_fa (off := 0) (F.t 7 rfl) fa92_0)) fun a F => ?_
      refine dk 5 F rfl NP HS (fun w S => (r_ld (F.t 37 rfl) (cel_cell (o := 0) (S.cell 0 rfl) rfl) one3)) fun a F => ?_
      refine dk 6 F rfl NP HS (fun w S => (r_fa (off := 1) (F.t 7 rfl) fa92_1)) fun a F => ?_
      refine dk 7 F rfl NP HS (fun w S => (r_ldA (F.t 39 rfl) (cel_range (o := 1) (n := 64) (vs := (arrOf ((a0.pending.getD (x15 : Int).toNat (⟨0, (Arr.zero 64)⟩ : disk_write)).b).l)) (S.cell 0 rfl) (arr_take ((a0.pending.getD (x15 : Int).toNat (⟨0, (Arr.zero 64)⟩ : disk_write)).b))) agg90 (arr_len ((a0.pending.getD (x15 : Int).toNat (⟨0, (Arr.zero 64)⟩ : disk_write)).b)))) fun a F => ?_
      obtain ⟨c35, j_23⟩ := guardO j_23
      obtain ⟨g36, s37, hA, hq39, hl38, H⟩ := H.ixOwn2 (Arr.zero 64) 1 rfl (F.t 36 rfl) (F.t 38 rfl) Try.underlying67 sz90 (by decide) c35.1 c35.2
      cases hA
      obtain rfl := H.says_arr 0 rfl
      have HS := H.fx1.fx0
      refine dmoreH HS (fun w S => S.px0) ?_
      refine dk 8 F rfl NP HS (fun w S => (hq39 _ _ _ _ _ _)) fun a F => ?_
      obtain ⟨_, hr, H⟩ := Hp.setOwn (kd := (kA 64)) (xs := x16) (j := ((a0.pending.getD (x15 : Int).toNat (⟨0, (Arr.zero 64)⟩ : disk_write)).at_ : Int).toNat) (x1 := (a0.pending.getD (x15 : Int).toNat (⟨0, (Arr.zero 64)⟩ : disk_write)).b) (H.f5.f5.f5.f5.f4.f5) (F.t 41 rfl) (F.t 40 rfl) rfl sz90 (by have := c35; omega) (fun Z hp => rfl)
      refine d1 9 rfl (by kernel_rfl) (qn F (.inl rfl) (hr _ _ _ _) fun a F => ?_)
      replace F := F.only [41, 40, 39, 38, 37, 36, 35, 34, 33, 29, 7, 0, 1, 2, 11, 12, 13] (l' := [(41, .pointer (some ⟨g36, ((a0.pending.getD (x15 : Int).toNat (⟨0, (Arr.zero 64)⟩ : disk_write)).at_ : Int).toNat * (kA 64).sz, none⟩)), (40, .agg (arrOf ((a0.pending.getD (x15 : Int).toNat (⟨0, (Arr.zero 64)⟩ : disk_write)).b).l).toArray), (39, .pointer (some ⟨g32, 1, none⟩)), (38, .int .i64 ((a0.pending.getD (x15 : Int).toNat (⟨0, (Arr.zero 64)⟩ : disk_write)).at_)), (37, pt g32), (36, .slice (some ⟨g36, 0, none⟩) ((x16.set ((a0.pending.getD (x15 : Int).toNat (⟨0, (Arr.zero 64)⟩ : disk_write)).at_ : Int).toNat ((a0.pending.getD (x15 : Int).toNat (⟨0, (Arr.zero 64)⟩ : disk_write)).b))).length c18), (35, pt g0_), (34, pt g0_), (33, pt g0_), (29, .bool true), (7, pt g32), (0, pt g0_), (1, .func (.func 58) #[] #[]), (2, .func (.func 59) #[] #[]), (11, .slice A8 a0.pending.length c9), (12, .int .i64 (a0.pending.length : Int)), (13, .int .i64 x15)]) (by (try simp only [List.length_set]); rfl)
      replace H : Hp w0 (says (kA 64) (arrOf ((x16.getD ((a0.pending.getD (x15 : Int).toNat (⟨0, (Arr.zero 64)⟩ : disk_write)).at_ : Int).toNat (Arr.zero 64))).l) ((x16.getD ((a0.pending.getD (x15 : Int).toNat (⟨0, (Arr.zero 64)⟩ : disk_write)).at_ : Int).toNat (Arr.zero 64))) :: ps) (own (kA 64) 90 (some ⟨g36, 0, none⟩) c18 ((x16.set ((a0.pending.getD (x15 : Int).toNat (⟨0, (Arr.zero 64)⟩ : disk_write)).at_ : Int).toNat ((a0.pending.getD (x15 : Int).toNat (⟨0, (Arr.zero 64)⟩ : disk_write)).b))) :: own k_disk_write 92 A8 c9 a0.pending :: cel g32 (.int .i64 ((a0.pending.getD (x15 : Int).toNat (⟨0, (Arr.zero 64)⟩ : disk_write)).at_) :: arrOf ((a0.pending.getD (x15 : Int).toNat (⟨0, (Arr.zero 64)⟩ : disk_write)).b).l) 92 :: cel g0_ [.slice (some ⟨g36, 0, none⟩) ((x16.set ((a0.pending.getD (x15 : Int).toNat (⟨0, (Arr.zero 64)⟩ : disk_write)).at_ : Int).toNat ((a0.pending.getD (x15 : Int).toNat (⟨0, (Arr.zero 64)⟩ : disk_write)).b))).length c18, .map (some g7), .slice A8 a0.pending.length c9, .int .i64 (max (IntKind.i64.wrap (a0.fuse - 1)) (-1))] 71 :: cel g1 [pt g0_] 24 :: imap g7 x19 :: fs) _ := (by (try simp only [List.length_set] at H); (try simp only [List.length_set]); exact H)
      have HS := H.fx1.fx0
      refine kga (by kernel_rfl) HS ?_
      refine ddone (by kernel_rfl) ?_
      replace F := F.only [7, 0, 1, 2, 11, 12, 13] (l' := [(7, _), (0, _), (1, _), (2, _), (11, _), (12, _), (13, _)]) rfl
      replace H := H.drew
      have HS := H.fx5.fx1.fx0
      refine dr (fun w => Hp w0 (says (kA 64) (arrOf ((x16.getD ((a0.pending.getD (x15 : Int).toNat (⟨0, (Arr.zero 64)⟩ : disk_write)).at_ : Int).toNat (Arr.zero 64))).l) ((x16.getD ((a0.pending.getD (x15 : Int).toNat (⟨0, (Arr.zero 64)⟩ : disk_write)).at_ : Int).toNat (Arr.zero 64))) :: ps) (cel g32 (.int .i64 ((a0.pending.getD (x15 : Int).toNat (⟨0, (Arr.zero 64)⟩ : disk_write)).at_) :: arrOf ((a0.pending.getD (x15 : Int).toNat (⟨0, (Arr.zero 64)⟩ : disk_write)).b).l) 92 :: cel g0_ [.slice (some ⟨g36, 0, none⟩) ((x16.set ((a0.pending.getD (x15 : Int).toNat (⟨0, (Arr.zero 64)⟩ : disk_write)).at_ : Int).toNat ((a0.pending.getD (x15 : Int).toNat (⟨0, (Arr.zero 64)⟩ : disk_write)).b))).length c18, .map (some g7), .slice A8 a0.pending.length c9, .int .i64 (max (IntKind.i64.wrap (a0.fuse - 1)) (-1))] 71 :: cel g1 [pt g0_] 24 :: fs) w) _ (by kernel_rfl) ?_ (n := 7)
      refine dk 0 F rfl NP HS (fun w S => (r_mv (F.t 0 rfl))) fun a F => ?_
      refine dk 1 F rfl NP HS (fun w S => (r_nc (F.t 42 rfl))) fun a F => ?_
      refine dk 2 F rfl NP HS (fun w S => (r_fa (off := 1) (F.t 43 rfl) fa71_1)) fun a F => ?_
      refine dk 3 F rfl NP HS (fun w S => (r_ld (F.t 44 rfl) (cel_cell (o := 1) (S.cell 1 rfl) rfl) one68)) fun a F => ?_
      refine dk 4 F rfl NP HS (fun w S => (r_fa (off := 0) (F.t 7 rfl) fa92_0)) fun a F => ?_
      refine dk 5 F rfl NP HS (fun w S => (r_ld (F.t 46 rfl) (cel_cell (o := 0) (S.cell 0 rfl) rfl) one3)) fun a F => ?_
      obtain ⟨_, hr, H⟩ := Hp.mrem (H.f4.f4.f4.f4.f4.f5) (F.t 45 rfl) (F.t 47 rfl) Try.underlying68 Try.underlying3
      refine d1 6 rfl (by kernel_rfl) (qn F (.inr ⟨_, rfl⟩) (hr _ _ _ _ _) fun a F => ?_)
      have HS := H.fx2.fx1.fx0
      refine kg _ HS (fun w S => S) ?_
      refine ddone (by kernel_rfl) ?_
      replace F := F.only [0, 1, 2, 11, 12, 13] (l' := [(0, _), (1, _), (2, _), (11, _), (12, _), (13, _)]) rfl
      refine wp_region_lit ?_
      refine qw F (r_add (F.t 13 rfl) (F.k (.int .i64 1))) fun a F => ?_
      refine mv F rfl fun a F => ?_
      refine wpList_nil ?_
      try dsimp only at j_23
      obtain rfl := Option.some.inj j_23
      exact ⟨_, rfl, (some ⟨g36, 0, none⟩), c18, F.only [0, 1, 2, 11, 12, 13] rfl, H.px0.f5.f5.f4.f4.fx5⟩
     rw [if_neg c25] at j_23
     rw [decide_eq_false c25] at F
     refine wp_cond_false (F.ev rfl) ?_
     refine wp_exit ?_
     try dsimp only at j_23
     obtain rfl := Option.some.inj j_23
     obtain rfl := u_23 _ rfl
     repeat (with_reducible refine exT ?_)
     with_reducible refine exB ?_
     exact ⟨_, _, rfl, A17, c18, F.only [0] rfl, H⟩
    rintro a w ⟨x20, x23, rfl, A21, c22, F, H⟩
    try dsimp only at k_13 F H
    refine wp_region_lit ?_
    refine mv F rfl fun a F => ?_
    refine qw F (r_nc (F.t 49 rfl)) fun a F => ?_
    refine qw F (r_fa (off := 2) (F.t 50 rfl) fa71_2) fun a F => ?_
    refine sto F [.slice none 0 0] [.slice A21 x20.length c22, .map (some g7), .slice none 0 0, .int .i64 (max (IntKind.i64.wrap (a0.fuse - 1)) (-1))] H.f4.f4.f3.f3.f4 rfl rfl sz69 fun w a H F => ?_
    refine wpList_nil ?_
    replace F := F.only [] (l' := []) rfl
    replace H := H.nilOwn k_disk_write 92
    replace H := Hp.closeO_disk_Disk (x := (⟨x20, x23, [], max (IntKind.i64.wrap (a0.fuse - 1)) (-1)⟩ : disk_Disk)) (H.f4.f4.f5.f3.f5.f5)
    try dsimp only at k_13
    obtain rfl := Option.some.inj k_13
    exact NRM _ _ (ret0 F rfl ⟨_, rfl, _, rfl, rfl, H.fx1⟩)
   rintro v w ⟨x13, rfl, rfl, H⟩ a F
   try dsimp only at k_11 F H
   refine rgend ?_
   replace F := F.only [] (l' := []) rfl
   refine rg ?_
   refine as_ F (v := .int .i64 0) rfl fun a F => ?_
   refine rgend ?_
   refine wp_ret ?_
   try dsimp only at k_11
   obtain rfl := Option.some.inj k_11
   exact RET _ _ (ret1 F rfl rfl ⟨_, rfl, _, rfl, rfl, H⟩)
  rintro v w ⟨x11, rfl, rfl, H⟩ a F
  try dsimp only at k_3 F H
  refine as_ F rfl fun a F => ?_
  refine rgend ?_
  refine wp_ret ?_
  try dsimp only at k_3
  obtain rfl := Option.some.inj k_3
  exact RET _ _ (ret1 F rfl rfl ⟨_, rfl, _, _, rfl, rfl, H⟩)
 rintro v w ⟨x2, x3, rfl, rfl, H⟩ a F
 try dsimp only at h F H
 refine as_ F rfl fun a F => ?_
 refine rgend ?_
 replace F := F.only [2] (l' := [(2, _)]) rfl
 refine wp_ret ?_
 try dsimp only at h
 obtain ⟨rfl, rfl⟩ := Prod.mk.inj (Option.some.inj h)
 exact RET _ _ (ret1 F rfl rfl ⟨_, rfl, rfl, H.fx1⟩)
def disk_Disk_Crash_b0 (a0 : disk_Disk) (a1 : List Bool) (a2 : Int) : (Int × (List (Arr 64)) × (List (Int × Int))) → Option (Int × (List (Arr 64)) × (List (Int × Int)) ⊕ (List (Arr 64)) × (List (Int × Int)))
 | (x10, x11, x14) => (if x10 < (a0.pending.length : Int) then (if 0 ≤ x10 ∧ x10 < (a0.pending.length : Int) then ((some () : Option (Unit)).bind fun _ => (((if x10 = a2 then some (x11, (mset x14 ((a0.pending.getD (x10 : Int).toNat (⟨0, (Arr.zero 64)⟩ : disk_write)).at_) x10)) else (((((if x10 < (a1.length : Int) then (if 0 ≤ x10 ∧ x10 < (a1.length : Int) then some (((a1.getD (x10 : Int).toNat false))) else none) else some false) : Option (Bool)).bind fun x37 => some x37) : Option (Bool)).bind fun x35 => (((if x35 = true then (if 0 ≤ (a0.pending.getD (x10 : Int).toNat (⟨0, (Arr.zero 64)⟩ : disk_write)).at_ ∧ (a0.pending.getD (x10 : Int).toNat (⟨0, (Arr.zero 64)⟩ : disk_write)).at_ < (x11.length : Int) then some ((x11.set ((a0.pending.getD (x10 : Int).toNat (⟨0, (Arr.zero 64)⟩ : disk_write)).at_ : Int).toNat ((a0.pending.getD (x10 : Int).toNat (⟨0, (Arr.zero 64)⟩ : disk_write)).b)), (mdel x14 ((a0.pending.getD (x10 : Int).toNat (⟨0, (Arr.zero 64)⟩ : disk_write)).at_))) else none) else some (x11, x14)) : Option ((List (Arr 64)) × (List (Int × Int)))).bind fun (x44, x47) => some (x44, x47)))) : Option ((List (Arr 64)) × (List (Int × Int)))).bind fun (x29, x32) => some (.inl (IntKind.i64.wrap (x10 + 1), x29, x32)))) else none) else some (.inr (x11, x14)))
def disk_Disk_Crash_f (a0 : disk_Disk) (a1 : List Bool) (a2 : Int) : Option (disk_Disk) :=
 ((((lp (disk_Disk_Crash_b0 a0 a1 a2) (0, a0.sectors, a0.torn)).bind fun (x15, x18) => some (⟨x15, x18, [], a0.fuse⟩ : disk_Disk)) : Option (disk_Disk)).bind fun x3 => some (((⟨x3.sectors, x3.torn, x3.pending, (-1)⟩ : disk_Disk))))
theorem disk_Disk_Crash_ok {w0 w : World} {ps : List PF} {fs : List SF} {a0 : disk_Disk} {g0_ : Nat} {a1 : List Bool} {A1_ : Option Addr} {c1_ : Nat} {a2 : Int} {s0 : disk_Disk} (H : Hp w0 (rd kBool A1_ c1_ a1 :: ps) (obj_disk_Disk g0_ a0 :: fs) w) (h : disk_Disk_Crash_f a0 a1 a2 = some s0) :
  Calls Try.prog 24 [pt g0_, .slice A1_ a1.length c1_, .int .i64 a2].toArray w fun e w' => ∃ v, e = .returned v ∧ v = .tuple #[] ∧ Hp w0 ps (obj_disk_Disk g0_ s0 :: fs) w' := by
 refine enter [pt g0_, .slice A1_ a1.length c1_, .int .i64 a2] 13 Try.func24 fun Q a NP RET NRM F => ?_
 replace NP := np NP
 unfold disk_Disk_Crash_f at h
 refine rg ?_
 refine ls (lbox F H rfl (cs := [.slice A1_ a1.length c1_]) rfl fun g1 w a H F => ?_)
 refine ls (lbox F H rfl (cs := [.int .i64 a2]) rfl fun g2 w a H F => ?_)
 refine rgend ?_
 refine rg ?_
 refine mv F rfl fun a F => ?_
 refine qw F (r_mf (f' := #[]) (c' := #[pt g1]) (by simp) (by rw [List.map_toArray]; exact congrArg _ (F.evs rfl))) fun a F => ?_
 refine qw F (r_mf (f' := #[]) (c' := #[pt g2]) (by simp) (by rw [List.map_toArray]; exact congrArg _ (F.evs rfl))) fun a F => ?_
 obtain ⟨o_3, k_3, h⟩ := Option.bind_eq_some_iff.1 h
 refine ls (call F Try.func48 (R := fun v w => ∃ (x3 : disk_Disk), x3 = o_3 ∧ v = .tuple #[] ∧ Hp w0 (rd kBool A1_ c1_ a1 :: ps) (cel g2 [.int .i64 a2] 3 :: obj_disk_Disk g0_ x3 :: cel g1 [.slice A1_ a1.length c1_] 33 :: fs) w) (args := [pt g0_, .func (.func 49) #[] #[pt g1], .func (.func 50) #[] #[pt g2]]) (cap := []) ?_ rfl rfl ?_)
 ·refine enter [pt g0_, .func (.func 49) #[] #[pt g1], .func (.func 50) #[] #[pt g2]] 52 Try.func48 fun Q a NP RET NRM F => ?_
  replace NP := np NP
  refine wp_seq ?_
  refine rg ?_
  refine mv F rfl fun a F => ?_
  refine qw F (r_nc (F.t 8 rfl)) fun a F => ?_
  refine qw F (r_fa (off := 2) (F.t 9 rfl) fa71_2) fun a F => ?_
  obtain ⟨A5, c6, A8, c9, g7, H⟩ := Hp.openO_disk_Disk (H.f1.f1.f2)
  refine qw F (r_ld (F.t 10 rfl) (cel_cell (o := 2) (H.cell 0 rfl) rfl) one69) fun a F => ?_
  refine qw F (r_len (F.t 11 rfl) Try.underlying69) fun a F => ?_
  refine mv F (v := .int .i64 0) rfl fun a F => ?_
  refine rgend ?_
  obtain ⟨o_18, k_18, k_3⟩ := Option.bind_eq_some_iff.1 k_3
  refine cut (fun a w => ∃ (x15 : List (Arr 64)) (x18 : List (Int × Int)), (x15, x18) = o_18 ∧ ∃ (A16 : Option Addr) (c17 : Nat), Fr 52 [] [(0, pt g0_)] a ∧ Hp w0 (rd kBool A1_ c1_ a1 :: ps) (own (kA 64) 90 A16 c17 x15 :: own k_disk_write 92 A8 c9 a0.pending :: cel g2 [.int .i64 a2] 3 :: cel g0_ [.slice A16 x15.length c17, .map (some g7), .slice A8 a0.pending.length c9, .int .i64 a0.fuse] 71 :: cel g1 [.slice A1_ a1.length c1_] 33 :: imap g7 x18 :: fs) w) (wp_block ?_) ?_
  ·refine wloop (disk_Disk_Crash_b0 a0 a1 a2) (fun (s : Int × (List (Arr 64)) × (List (Int × Int))) a w => ∃ (A12 : Option Addr) (c13 : Nat), Fr 52 [] [(0, pt g0_), (1, .func (.func 49) #[] #[pt g1]), (2, .func (.func 50) #[] #[pt g2]), (11, .slice A8 a0.pending.length c9), (12, .int .i64 (a0.pending.length : Int)), (13, .int .i64 s.1)] a ∧ Hp w0 (rd kBool A1_ c1_ a1 :: ps) (own (kA 64) 90 A12 c13 s.2.1 :: own k_disk_write 92 A8 c9 a0.pending :: cel g2 [.int .i64 a2] 3 :: cel g0_ [.slice A12 s.2.1.length c13, .map (some g7), .slice A8 a0.pending.length c9, .int .i64 a0.fuse] 71 :: cel g1 [.slice A1_ a1.length c1_] 33 :: imap g7 s.2.2 :: fs) w) k_18 ⟨A5, c6, F.only [0, 1, 2, 11, 12, 13] rfl, H.f3.f5.f2.f5.f5.f5⟩ ?_
   rintro ⟨x10, x11, x14⟩ a w q_18 j_18 u_18 ⟨A12, c13, F, H⟩
   unfold disk_Disk_Crash_b0 at j_18
   try dsimp only at j_18 F H
   refine rg ?_
   refine qw F (r_lt (F.t 13 rfl) (F.t 12 rfl)) fun a F => ?_
   refine rgend ?_
   refine wp_seq ?_
   by_cases c20 : x10 < (a0.pending.length : Int)
   ·rw [if_pos c20] at j_18
    rw [decide_eq_true c20] at F
    refine wp_cond_true (F.ev rfl) ?_
    refine wp_skip ?_
    refine wp_seq ?_
    refine wp_block ?_
    refine rg ?_
    refine mv F rfl fun a F => ?_
    obtain ⟨c21, j_18⟩ := guardO j_18
    obtain ⟨g22, s23, hA, hq25, hl24, H⟩ := H.ixOwn2 (⟨0, (Arr.zero 64)⟩ : disk_write) 1 rfl (F.t 11 rfl) (F.t 13 rfl) Try.underlying69 sz92 (by decide) c21.1 c21.2
    have hA26 := hA
    obtain ⟨rfl, H⟩ := H.open_disk_write 0 rfl
    refine qw F (hq25 _ _ _ _ _ _) fun a F => ?_
    refine qw F (r_ldA (F.t 16 rfl) hl24 agg92 (len_cons (arr_len ((a0.pending.getD (x10 : Int).toNat (⟨0, (Arr.zero 64)⟩ : disk_write)).b)))) fun a F => ?_
    refine ls (lal F H ti92 (cs := (.int .i64 0 :: arrOf (Arr.zero 64).l)) rfl fun g27 w a H F => ?_)
    refine as_ F rfl fun a F => ?_
    obtain ⟨_, hr, H⟩ := Hp.store (t := 92) (o := 0) (n := 65) (vs := (.int .i64 ((a0.pending.getD (x10 : Int).toNat (⟨0, (Arr.zero 64)⟩ : disk_write)).at_) :: arrOf ((a0.pending.getD (x10 : Int).toNat (⟨0, (Arr.zero 64)⟩ : disk_write)).b).l)) (cs' := (.int .i64 ((a0.pending.getD (x10 : Int).toNat (⟨0, (Arr.zero 64)⟩ : disk_write)).at_) :: arrOf ((a0.pending.getD (x10 : Int).toNat (⟨0, (Arr.zero 64)⟩ : disk_write)).b).l)) (H) (F.t 7 rfl) (F.t 17 rfl) rfl sz92 (len_cons (arr_len ((a0.pending.getD (x10 : Int).toNat (⟨0, (Arr.zero 64)⟩ : disk_write)).b))) (Nat.le_of_eq ((Nat.zero_add _).trans (len_cons (arr_len (Arr.zero 64))).symm)) (all_cons rfl (arr_all _)) (putAt_all ((len_cons (arr_len ((a0.pending.getD (x10 : Int).toNat (⟨0, (Arr.zero 64)⟩ : disk_write)).b))).trans (len_cons (arr_len (Arr.zero 64))).symm))
    refine ls (qn F (.inl rfl) (hr _ _ _ _) fun a F => ?_)
    refine rgend ?_
    replace F := F.only [6, 7, 0, 1, 2, 11, 12, 13] (l' := [(6, _), (7, _), (0, _), (1, _), (2, _), (11, _), (12, _), (13, _)]) rfl
    refine wp_block ?_
    refine rg ?_
    iterate 2 refine mv F rfl fun a F => ?_
    obtain ⟨o_27, k_27, j_18⟩ := Option.bind_eq_some_iff.1 j_18
    refine ls (call F Try.func50 (R := fun v w => () = o_27 ∧ v = .bool (decide (x10 = a2)) ∧ Hp w0 (rd kBool A1_ c1_ a1 :: ps) (own k_disk_write 92 A8 c9 a0.pending :: own (kA 64) 90 A12 c13 x11 :: cel g27 (.int .i64 ((a0.pending.getD (x10 : Int).toNat (⟨0, (Arr.zero 64)⟩ : disk_write)).at_) :: arrOf ((a0.pending.getD (x10 : Int).toNat (⟨0, (Arr.zero 64)⟩ : disk_write)).b).l) 92 :: cel g2 [.int .i64 a2] 3 :: cel g0_ [.slice A12 x11.length c13, .map (some g7), .slice A8 a0.pending.length c9, .int .i64 a0.fuse] 71 :: cel g1 [.slice A1_ a1.length c1_] 33 :: imap g7 x14 :: fs) w) (args := [.int .i64 x10, pt g2]) (cap := [pt g2]) ?_ rfl rfl ?_)
    ·refine enter [.int .i64 x10, pt g2] 7 Try.func50 fun Q a NP RET NRM F => ?_
     replace NP := np NP
     refine rg ?_
     refine as_ F (v := .bool false) rfl fun a F => ?_
     refine rgend ?_
     refine rg ?_
     refine mv F rfl fun a F => ?_
     refine qw F (r_ld (F.t 1 rfl) (cel_cell (o := 0) (H.cell 3 rfl) rfl) one3) fun a F => ?_
     refine qw F (r_eq (F.t 4 rfl) (F.t 5 rfl)) fun a F => ?_
     refine as_ F rfl fun a F => ?_
     refine rgend ?_
     replace F := F.only [3] (l' := [(3, _)]) rfl
     refine wp_ret ?_
     try dsimp only at k_27
     obtain rfl := Option.some.inj k_27
     exact RET _ _ (ret1 F rfl rfl ⟨_, rfl, rfl, rfl, H.px0.f6.f6.f6.f6.f4.f5.f6⟩)
    rintro v w ⟨rfl, rfl, H⟩ a F
    try dsimp only at j_18 F H
    refine as_ F rfl fun a F => ?_
    refine rgend ?_
    obtain ⟨o_32, k_32, j_18⟩ := Option.bind_eq_some_iff.1 j_18
    refine cut (fun a w => ∃ (x29 : List (Arr 64)) (x32 : List (Int × Int)), (x29, x32) = o_32 ∧ ∃ (A30 : Option Addr) (c31 : Nat), Fr 52 [] [(0, pt g0_), (1, .func (.func 49) #[] #[pt g1]), (2, .func (.func 50) #[] #[pt g2]), (11, .slice A8 a0.pending.length c9), (12, .int .i64 (a0.pending.length : Int)), (13, .int .i64 x10)] a ∧ Hp w0 (rd kBool A1_ c1_ a1 :: ps) (own (kA 64) 90 A30 c31 x29 :: own k_disk_write 92 A8 c9 a0.pending :: cel g2 [.int .i64 a2] 3 :: cel g0_ [.slice A30 x29.length c31, .map (some g7), .slice A8 a0.pending.length c9, .int .i64 a0.fuse] 71 :: cel g1 [.slice A1_ a1.length c1_] 33 :: imap g7 x32 :: fs) w) ?_ ?_
    ·skip
     by_cases c34 : x10 = a2
     ·rw [if_pos c34] at k_32
      rw [decide_eq_true c34] at F
      refine wp_cond_true (F.ev rfl) ?_
      replace H := H.drew
      have HS := H.fx1.fx0
      refine dr (fun w => Hp w0 (rd kBool A1_ c1_ a1 :: ps) (cel g27 (.int .i64 ((a0.pending.getD (x10 : Int).toNat (⟨0, (Arr.zero 64)⟩ : disk_write)).at_) :: arrOf ((a0.pending.getD (x10 : Int).toNat (⟨0, (Arr.zero 64)⟩ : disk_write)).b).l) 92 :: cel g2 [.int .i64 a2] 3 :: cel g0_ [.slice A12 x11.length c13, .map (some g7), .slice A8 a0.pending.length c9, .int .i64 a0.fuse] 71 :: cel g1 [.slice A1_ a1.length c1_] 33 :: imap g7 x14 :: fs) w) _ (by kernel_rfl) ?_ (n := 8)
      refine dk 0 F rfl NP HS (fun w S => (r_mv (F.t 0 rfl))) fun a F => ?_
      refine dk 1 F rfl NP HS (fun w S => (r_nc (F.t 22 rfl))) fun a F => ?_
      refine dk 2 F rfl NP HS (fun w S => (r_fa (off := 1) (F.t 23 rfl) fa71_1)) fun a F => ?_
      refine dk 3 F rfl NP HS (fun w S => (r_ld (F.t 24 rfl) (cel_cell (o := 1) (S.cell 2 rfl) rfl) one68)) fun a F => ?_
      refine dk 4 F rfl NP HS (fun w S => (r_fa (off := 0) (F.t 7 rfl) fa92_0)) fun a F => ?_
      refine dk 5 F rfl NP HS (fun w S => (r_ld (F.t 26 rfl) (cel_cell (o := 0) (S.cell 0 rfl) rfl) one3)) fun a F => ?_
      refine dk 6 F rfl NP HS (fun w S => (r_mv (F.t 6 rfl))) fun a F => ?_
      obtain ⟨_, hr, H⟩ := Hp.mput (H.f5.f5.f5.f5.f5.f5.f6) (F.t 25 rfl) (F.t 27 rfl) (F.t 28 rfl) Try.underlying68 Try.underlying3
      refine d1 7 rfl (by kernel_rfl) (qn F (.inl rfl) (hr _ _ _ _) fun a F => ?_)
      have HS := H.fx2.fx1
      refine kga (by kernel_rfl) HS ?_
      refine ddone (by kernel_rfl) ?_
      replace F := F.only [0, 1, 2, 11, 12, 13] (l' := [(0, _), (1, _), (2, _), (11, _), (12, _), (13, _)]) rfl
      try dsimp only at k_32
      obtain rfl := Option.some.inj k_32
      exact ⟨_, _, rfl, A12, c13, F.only [0, 1, 2, 11, 12, 13] rfl, H.f6.f6.f6.f4.f5.fx6⟩
     rw [if_neg c34] at k_32
     rw [decide_eq_false c34] at F
     refine wp_cond_false (F.ev rfl) ?_
     refine rg ?_
     iterate 2 refine mv F rfl fun a F => ?_
     obtain ⟨o_35, k_35, k_32⟩ := Option.bind_eq_some_iff.1 k_32
     refine ls (call F Try.func49 (R := fun v w => ∃ (x35 : Bool), x35 = o_35 ∧ v = .bool x35 ∧ Hp w0 (rd kBool A1_ c1_ a1 :: ps) (own k_disk_write 92 A8 c9 a0.pending :: own (kA 64) 90 A12 c13 x11 :: cel g27 (.int .i64 ((a0.pending.getD (x10 : Int).toNat (⟨0, (Arr.zero 64)⟩ : disk_write)).at_) :: arrOf ((a0.pending.getD (x10 : Int).toNat (⟨0, (Arr.zero 64)⟩ : disk_write)).b).l) 92 :: cel g2 [.int .i64 a2] 3 :: cel g0_ [.slice A12 x11.length c13, .map (some g7), .slice A8 a0.pending.length c9, .int .i64 a0.fuse] 71 :: cel g1 [.slice A1_ a1.length c1_] 33 :: imap g7 x14 :: fs) w) (args := [.int .i64 x10, pt g1]) (cap := [pt g1]) ?_ rfl rfl ?_)
     ·refine enter [.int .i64 x10, pt g1] 14 Try.func49 fun Q a NP RET NRM F => ?_
      replace NP := np NP
      refine rg ?_
      refine as_ F (v := .bool false) rfl fun a F => ?_
      refine rgend ?_
      refine wp_seq ?_
      obtain ⟨o_37, k_37, k_35⟩ := Option.bind_eq_some_iff.1 k_35
      refine cut (fun a w => ∃ (x37 : Bool), x37 = o_37 ∧ Fr 14 [] [(3, .bool x37)] a ∧ Hp w0 (rd kBool A1_ c1_ a1 :: ps) (own k_disk_write 92 A8 c9 a0.pending :: own (kA 64) 90 A12 c13 x11 :: cel g27 (.int .i64 ((a0.pending.getD (x10 : Int).toNat (⟨0, (Arr.zero 64)⟩ : disk_write)).at_) :: arrOf ((a0.pending.getD (x10 : Int).toNat (⟨0, (Arr.zero 64)⟩ : disk_write)).b).l) 92 :: cel g2 [.int .i64 a2] 3 :: cel g0_ [.slice A12 x11.length c13, .map (some g7), .slice A8 a0.pending.length c9, .int .i64 a0.fuse] 71 :: cel g1 [.slice A1_ a1.length c1_] 33 :: imap g7 x14 :: fs) w) ?_ ?_
      ·skip
       refine wp_region_lit ?_
       refine mv F rfl fun a F => ?_
       refine qw F (r_ld (F.t 1 rfl) (cel_cell (o := 0) (H.cell 5 rfl) rfl) one33) fun a F => ?_
       refine qw F (r_len (F.t 5 rfl) Try.underlying33) fun a F => ?_
       refine qw F (r_lt (F.t 4 rfl) (F.t 6 rfl)) fun a F => ?_
       refine mv F rfl fun a F => ?_
       by_cases c39 : x10 < (a1.length : Int)
       ·rw [if_pos c39] at k_37
        rw [decide_eq_true c39] at F
        refine qw F (r_ld (F.t 1 rfl) (cel_cell (o := 0) (H.cell 5 rfl) rfl) one33) fun a F => ?_
        refine mv F rfl fun a F => ?_
        obtain ⟨c40, k_37⟩ := guardO k_37
        obtain ⟨g41, o42, s43, hr, H⟩ := H.ix false 0 rfl (F.t 9 rfl) (F.t 10 rfl) Try.underlying33 sz4 (by decide) c40.1 c40.2
        obtain rfl := H.says_bool 1 rfl
        refine qw F (hr _ _ _ _ _ _) fun a F => ?_
        refine qw F (r_ld (F.t 11 rfl) (range_cell (j := 0) (H.range 0 rfl) rfl) one4) fun a F => ?_
        refine qw F (r_pickT (F.t 8 rfl) (F.t 12 rfl)) fun a F => ?_
        refine as_ F rfl fun a F => ?_
        refine wpList_nil ?_
        replace F := F.only [3] (l' := [(3, _)]) rfl
        try dsimp only at k_37
        obtain rfl := Option.some.inj k_37
        exact ⟨_, rfl, F.only [3] rfl, H.px1.px0⟩
       rw [if_neg c39] at k_37
       rw [decide_eq_false c39] at F
       iterate 4 refine of_ F fun a F => ?_
       refine qw F (r_pickF (F.t 8 rfl) (F.k (.bool false))) fun a F => ?_
       refine as_ F rfl fun a F => ?_
       refine wpList_nil ?_
       replace F := F.only [3] (l' := [(3, _)]) rfl
       try dsimp only at k_37
       obtain rfl := Option.some.inj k_37
       exact ⟨_, rfl, F.only [3] rfl, H⟩
      rintro a w ⟨x37, rfl, F, H⟩
      try dsimp only at k_35 F H
      refine wp_ret ?_
      try dsimp only at k_35
      obtain rfl := Option.some.inj k_35
      exact RET _ _ (ret1 F rfl rfl ⟨_, rfl, _, rfl, rfl, H⟩)
     rintro v w ⟨x35, rfl, rfl, H⟩ a F
     try dsimp only at k_32 F H
     refine as_ F rfl fun a F => ?_
     refine rgend ?_
     replace F := F.only [29, 7, 0, 1, 2, 11, 12, 13] (l' := [(29, _), (7, _), (0, _), (1, _), (2, _), (11, _), (12, _), (13, _)]) rfl
     obtain ⟨o_47, k_47, k_32⟩ := Option.bind_eq_some_iff.1 k_32
     refine cut (fun a w => ∃ (x44 : List (Arr 64)) (x47 : List (Int × Int)), (x44, x47) = o_47 ∧ ∃ (A45 : Option Addr) (c46 : Nat), Fr 52 [] [(0, pt g0_), (1, .func (.func 49) #[] #[pt g1]), (2, .func (.func 50) #[] #[pt g2]), (11, .slice A8 a0.pending.length c9), (12, .int .i64 (a0.pending.length : Int)), (13, .int .i64 x10)] a ∧ Hp w0 (rd kBool A1_ c1_ a1 :: ps) (own (kA 64) 90 A45 c46 x44 :: own k_disk_write 92 A8 c9 a0.pending :: cel g2 [.int .i64 a2] 3 :: cel g0_ [.slice A45 x44.length c46, .map (some g7), .slice A8 a0.pending.length c9, .int .i64 a0.fuse] 71 :: cel g1 [.slice A1_ a1.length c1_] 33 :: imap g7 x47 :: fs) w) ?_ ?_
     ·skip
      by_cases c49 : x35 = true
      ·rw [if_pos c49] at k_47
       rw [c49] at F
       refine wp_cond_true (F.ev rfl) ?_
       refine wp_seq ?_
       replace H := H.drew
       have HS := H.fx1.fx0
       refine dr (fun w => Hp w0 (rd kBool A1_ c1_ a1 :: ps) (cel g27 (.int .i64 ((a0.pending.getD (x10 : Int).toNat (⟨0, (Arr.zero 64)⟩ : disk_write)).at_) :: arrOf ((a0.pending.getD (x10 : Int).toNat (⟨0, (Arr.zero 64)⟩ : disk_write)).b).l) 92 :: cel g2 [.int .i64 a2] 3 :: cel g0_ [.slice A12 x11.length c13, .map (some g7), .slice A8 a0.pending.length c9, .int .i64 a0.fuse] 71 :: cel g1 [.slice A1_ a1.length c1_] 33 :: imap g7 x14 :: fs) w) _ (by kernel_rfl) ?_ (n := 10)
       refine dk 0 F rfl NP HS (fun w S => (r_mv (F.t 0 rfl))) fun a F => ?_
       refine dk 1 F rfl NP HS (fun w S => (r_nc (F.t 33 rfl))) fun a F => ?_
       refine dk 2 F rfl NP HS (fun w S => (r_fa (off := 0) (F.t 34 rfl) fa71_0)) fun a F => ?_
       refine dk 3 F rfl NP HS (fun w S => (r_ld (F.t 35 rfl) (cel_cell (o := 0) (S.cell 2 rfl) rfl) one67)) fun a F => ?_
       refine dk 4 F rfl NP HS (fun w S => (r_fa (off := 0) (F.t 7 rfl) fa92_0)) fun a F => ?_
       refine dk 5 F rfl NP HS (fun w S => (r_ld (F.t 37 rfl) (cel_cell (o := 0) (S.cell 0 rfl) rfl) one3)) fun a F => ?_
       refine dk 6 F rfl NP HS (fun w S => (r_fa (off := 1) (F.t 7 rfl) fa92_1)) fun a F => ?_
       refine dk 7 F rfl NP HS (fun w S => (r_ldA (F.t 39 rfl) (cel_range (o := 1) (n := 64) (vs := (arrOf ((a0.pending.getD (x10 : Int).toNat (⟨0, (Arr.zero 64)⟩ : disk_write)).b).l)) (S.cell 0 rfl) (arr_take ((a0.pending.getD (x10 : Int).toNat (⟨0, (Arr.zero 64)⟩ : disk_write)).b))) agg90 (arr_len ((a0.pending.getD (x10 : Int).toNat (⟨0, (Arr.zero 64)⟩ : disk_write)).b)))) fun a F => ?_
       obtain ⟨c50, k_47⟩ := guardO k_47
       obtain ⟨g51, s52, hA, hq54, hl53, H⟩ := H.ixOwn2 (Arr.zero 64) 1 rfl (F.t 36 rfl) (F.t 38 rfl) Try.underlying67 sz90 (by decide) c50.1 c50.2
       cases hA
       obtain rfl := H.says_arr 0 rfl
       have HS := H.fx1.fx0
       refine dmoreH HS (fun w S => S.px0) ?_
       refine dk 8 F rfl NP HS (fun w S => (hq54 _ _ _ _ _ _)) fun a F => ?_
       obtain ⟨_, hr, H⟩ := Hp.setOwn (kd := (kA 64)) (xs := x11) (j := ((a0.pending.getD (x10 : Int).toNat (⟨0, (Arr.zero 64)⟩ : disk_write)).at_ : Int).toNat) (x1 := (a0.pending.getD (x10 : Int).toNat (⟨0, (Arr.zero 64)⟩ : disk_write)).b) (H.f6.f6.f6.f6.f6.f5.f6) (F.t 41 rfl) (F.t 40 rfl) rfl sz90 (by have := c50; omega) (fun Z hp => rfl)
       refine d1 9 rfl (by kernel_rfl) (qn F (.inl rfl) (hr _ _ _ _) fun a F => ?_)
       replace F := F.only [41, 40, 39, 38, 37, 36, 35, 34, 33, 29, 7, 0, 1, 2, 11, 12, 13] (l' := [(41, .pointer (some ⟨g51, ((a0.pending.getD (x10 : Int).toNat (⟨0, (Arr.zero 64)⟩ : disk_write)).at_ : Int).toNat * (kA 64).sz, none⟩)), (40, .agg (arrOf ((a0.pending.getD (x10 : Int).toNat (⟨0, (Arr.zero 64)⟩ : disk_write)).b).l).toArray), (39, .pointer (some ⟨g27, 1, none⟩)), (38, .int .i64 ((a0.pending.getD (x10 : Int).toNat (⟨0, (Arr.zero 64)⟩ : disk_write)).at_)), (37, pt g27), (36, .slice (some ⟨g51, 0, none⟩) ((x11.set ((a0.pending.getD (x10 : Int).toNat (⟨0, (Arr.zero 64)⟩ : disk_write)).at_ : Int).toNat ((a0.pending.getD (x10 : Int).toNat (⟨0, (Arr.zero 64)⟩ : disk_write)).b))).length c13), (35, pt g0_), (34, pt g0_), (33, pt g0_), (29, .bool true), (7, pt g27), (0, pt g0_), (1, .func (.func 49) #[] #[pt g1]), (2, .func (.func 50) #[] #[pt g2]), (11, .slice A8 a0.pending.length c9), (12, .int .i64 (a0.pending.length : Int)), (13, .int .i64 x10)]) (by (try simp only [List.length_set]); rfl)
       replace H : Hp w0 (says (kA 64) (arrOf ((x11.getD ((a0.pending.getD (x10 : Int).toNat (⟨0, (Arr.zero 64)⟩ : disk_write)).at_ : Int).toNat (Arr.zero 64))).l) ((x11.getD ((a0.pending.getD (x10 : Int).toNat (⟨0, (Arr.zero 64)⟩ : disk_write)).at_ : Int).toNat (Arr.zero 64))) :: rd kBool A1_ c1_ a1 :: ps) (own (kA 64) 90 (some ⟨g51, 0, none⟩) c13 ((x11.set ((a0.pending.getD (x10 : Int).toNat (⟨0, (Arr.zero 64)⟩ : disk_write)).at_ : Int).toNat ((a0.pending.getD (x10 : Int).toNat (⟨0, (Arr.zero 64)⟩ : disk_write)).b))) :: own k_disk_write 92 A8 c9 a0.pending :: cel g27 (.int .i64 ((a0.pending.getD (x10 : Int).toNat (⟨0, (Arr.zero 64)⟩ : disk_write)).at_) :: arrOf ((a0.pending.getD (x10 : Int).toNat (⟨0, (Arr.zero 64)⟩ : disk_write)).b).l) 92 :: cel g2 [.int .i64 a2] 3 :: cel g0_ [.slice (some ⟨g51, 0, none⟩) ((x11.set ((a0.pending.getD (x10 : Int).toNat (⟨0, (Arr.zero 64)⟩ : disk_write)).at_ : Int).toNat ((a0.pending.getD (x10 : Int).toNat (⟨0, (Arr.zero 64)⟩ : disk_write)).b))).length c13, .map (some g7), .slice A8 a0.pending.length c9, .int .i64 a0.fuse] 71 :: cel g1 [.slice A1_ a1.length c1_] 33 :: imap g7 x14 :: fs) _ := (by (try simp only [List.length_set] at H); (try simp only [List.length_set]); exact H)
       have HS := H.fx1.fx0
       refine kga (by kernel_rfl) HS ?_
       refine ddone (by kernel_rfl) ?_
       replace F := F.only [7, 0, 1, 2, 11, 12, 13] (l' := [(7, _), (0, _), (1, _), (2, _), (11, _), (12, _), (13, _)]) rfl
       replace H := H.drew
       have HS := H.fx6.fx1.fx0
       refine dr (fun w => Hp w0 (says (kA 64) (arrOf ((x11.getD ((a0.pending.getD (x10 : Int).toNat (⟨0, (Arr.zero 64)⟩ : disk_write)).at_ : Int).toNat (Arr.zero 64))).l) ((x11.getD ((a0.pending.getD (x10 : Int).toNat (⟨0, (Arr.zero 64)⟩ : disk_write)).at_ : Int).toNat (Arr.zero 64))) :: rd kBool A1_ c1_ a1 :: ps) (cel g27 (.int .i64 ((a0.pending.getD (x10 : Int).toNat (⟨0, (Arr.zero 64)⟩ : disk_write)).at_) :: arrOf ((a0.pending.getD (x10 : Int).toNat (⟨0, (Arr.zero 64)⟩ : disk_write)).b).l) 92 :: cel g2 [.int .i64 a2] 3 :: cel g0_ [.slice (some ⟨g51, 0, none⟩) ((x11.set ((a0.pending.getD (x10 : Int).toNat (⟨0, (Arr.zero 64)⟩ : disk_write)).at_ : Int).toNat ((a0.pending.getD (x10 : Int).toNat (⟨0, (Arr.zero 64)⟩ : disk_write)).b))).length c13, .map (some g7), .slice A8 a0.pending.length c9, .int .i64 a0.fuse] 71 :: cel g1 [.slice A1_ a1.length c1_] 33 :: fs) w) _ (by kernel_rfl) ?_ (n := 7)
       refine dk 0 F rfl NP HS (fun w S => (r_mv (F.t 0 rfl))) fun a F => ?_
       refine dk 1 F rfl NP HS (fun w S => (r_nc (F.t 42 rfl))) fun a F => ?_
       refine dk 2 F rfl NP HS (fun w S => (r_fa (off := 1) (F.t 43 rfl) fa71_1)) fun a F => ?_
       refine dk 3 F rfl NP HS (fun w S => (r_ld (F.t 44 rfl) (cel_cell (o := 1) (S.cell 2 rfl) rfl) one68)) fun a F => ?_
       refine dk 4 F rfl NP HS (fun w S => (r_fa (off := 0) (F.t 7 rfl) fa92_0)) fun a F => ?_
       refine dk 5 F rfl NP HS (fun w S => (r_ld (F.t 46 rfl) (cel_cell (o := 0) (S.cell 0 rfl) rfl) one3)) fun a F => ?_
       obtain ⟨_, hr, H⟩ := Hp.mrem (H.f5.f5.f5.f5.f5.f5.f6) (F.t 45 rfl) (F.t 47 rfl) Try.underlying68 Try.underlying3
       refine d1 6 rfl (by kernel_rfl) (qn F (.inr ⟨_, rfl⟩) (hr _ _ _ _ _) fun a F => ?_)
       have HS := H.fx2.fx1.fx0
       refine kg _ HS (fun w S => S) ?_
       refine ddone (by kernel_rfl) ?_
       replace F := F.only [0, 1, 2, 11, 12, 13] (l' := [(0, _), (1, _), (2, _), (11, _), (12, _), (13, _)]) rfl
       try dsimp only at k_47
       obtain rfl := Option.some.inj k_47
       exact ⟨_, _, rfl, (some ⟨g51, 0, none⟩), c13, F.only [0, 1, 2, 11, 12, 13] rfl, H.px0.f6.f6.f6.f5.f5.fx6⟩
      rw [if_neg c49] at k_47
      rw [Bool.eq_false_iff.2 c49] at F
      refine wp_cond_false (F.ev rfl) ?_
      refine wp_skip ?_
      try dsimp only at k_47
      obtain rfl := Option.some.inj k_47
      exact ⟨_, _, rfl, A12, c13, F.only [0, 1, 2, 11, 12, 13] rfl, H.f6.f6.f6.f6.f4.f5.fx6⟩
     rintro a w ⟨x44, x47, rfl, A45, c46, F, H⟩
     try dsimp only at k_32 F H
     try dsimp only at k_32
     obtain rfl := Option.some.inj k_32
     exact ⟨_, _, rfl, A45, c46, F.only [0, 1, 2, 11, 12, 13] rfl, H⟩
    rintro a w ⟨x29, x32, rfl, A30, c31, F, H⟩
    try dsimp only at j_18 F H
    refine wp_region_lit ?_
    refine qw F (r_add (F.t 13 rfl) (F.k (.int .i64 1))) fun a F => ?_
    refine mv F rfl fun a F => ?_
    refine wpList_nil ?_
    try dsimp only at j_18
    obtain rfl := Option.some.inj j_18
    exact ⟨_, rfl, A30, c31, F.only [0, 1, 2, 11, 12, 13] rfl, H⟩
   rw [if_neg c20] at j_18
   rw [decide_eq_false c20] at F
   refine wp_cond_false (F.ev rfl) ?_
   refine wp_exit ?_
   try dsimp only at j_18
   obtain rfl := Option.some.inj j_18
   obtain rfl := u_18 _ rfl
   repeat (with_reducible refine exT ?_)
   with_reducible refine exB ?_
   exact ⟨_, _, rfl, A12, c13, F.only [0] rfl, H⟩
  rintro a w ⟨x15, x18, rfl, A16, c17, F, H⟩
  try dsimp only at k_3 F H
  refine wp_region_lit ?_
  refine mv F rfl fun a F => ?_
  refine qw F (r_nc (F.t 49 rfl)) fun a F => ?_
  refine qw F (r_fa (off := 2) (F.t 50 rfl) fa71_2) fun a F => ?_
  refine sto F [.slice none 0 0] [.slice A16 x15.length c17, .map (some g7), .slice none 0 0, .int .i64 a0.fuse] H.f5.f5.f4.f4.f4.f5 rfl rfl sz69 fun w a H F => ?_
  refine wpList_nil ?_
  replace F := F.only [] (l' := []) rfl
  replace H := H.nilOwn k_disk_write 92
  replace H := Hp.closeO_disk_Disk (x := (⟨x15, x18, [], a0.fuse⟩ : disk_Disk)) (H.f5.f5.f5.f6.f4.f6.f6)
  try dsimp only at k_3
  obtain rfl := Option.some.inj k_3
  exact NRM _ _ (ret0 F rfl ⟨_, rfl, _, rfl, rfl, H.f3.f1.f3.fx3⟩)
 rintro v w ⟨x3, rfl, rfl, H⟩ a F
 try dsimp only at h F H
 refine rgend ?_
 replace F := F.only [0] (l' := [(0, _)]) rfl
 refine wp_region_lit ?_
 refine mv F rfl fun a F => ?_
 refine qw F (r_nc (F.t 10 rfl)) fun a F => ?_
 refine qw F (r_fa (off := 3) (F.t 11 rfl) fa71_3) fun a F => ?_
 obtain ⟨A55, c56, A58, c59, g57, H⟩ := Hp.openO_disk_Disk (H.f2.f1.f2)
 refine sto F [.int .i64 (-1)] [.slice A55 x3.sectors.length c56, .map (some g57), .slice A58 x3.pending.length c59, .int .i64 (-1)] H rfl rfl sz3 fun w a H F => ?_
 refine wpList_nil ?_
 replace F := F.only [] (l' := []) rfl
 replace H := Hp.closeO_disk_Disk (x := (⟨x3.sectors, x3.torn, x3.pending, (-1)⟩ : disk_Disk)) (H)
 try dsimp only at h
 obtain rfl := Option.some.inj h
 exact NRM _ _ (ret0 F rfl ⟨_, rfl, rfl, H.px0.fx2.fx1⟩)
def region_state_f (a0 : List Int) : Option (Bool) :=
 (((if (a0.length : Int) > 0 then some ((decide ((a0.length : Int) ≤ 1600))) else some false) : Option (Bool)).bind fun x1 => some x1)
theorem region_state_ok {w0 w : World} {ps : List PF} {fs : List SF} {a0 : List Int} {A0_ : Option Addr} {c0_ : Nat} {r0 : Bool} (H : Hp w0 ps fs w) (h : region_state_f a0 = some r0) :
  Calls Try.prog 78 [.slice A0_ a0.length c0_].toArray w fun e w' => ∃ v, e = .returned v ∧ v = .bool r0 ∧ Hp w0 ps fs w' := by
 refine enter [.slice A0_ a0.length c0_] 11 Try.func78 fun Q a NP RET NRM F => ?_
 replace NP := np NP
 unfold region_state_f at h
 refine rg ?_
 refine as_ F (v := .bool false) rfl fun a F => ?_
 refine rgend ?_
 refine wp_seq ?_
 obtain ⟨o_1, k_1, h⟩ := Option.bind_eq_some_iff.1 h
 refine cut (fun a w => ∃ (x1 : Bool), x1 = o_1 ∧ Fr 11 [] [(2, .bool x1)] a ∧ Hp w0 ps fs w) ?_ ?_
 ·skip
  refine wp_region_lit ?_
  refine mv F rfl fun a F => ?_
  refine qw F (r_len (F.t 3 rfl) Try.underlying29) fun a F => ?_
  refine qw F (r_gt (F.t 4 rfl) (F.k (.int .i64 0))) fun a F => ?_
  refine mv F rfl fun a F => ?_
  by_cases c3 : (a0.length : Int) > 0
  ·rw [if_pos c3] at k_1
   rw [decide_eq_true c3] at F
   refine mv F rfl fun a F => ?_
   refine qw F (r_len (F.t 7 rfl) Try.underlying29) fun a F => ?_
   refine qw F (r_le (F.t 8 rfl) (F.k (.int .i64 1600))) fun a F => ?_
   refine qw F (r_pickT (F.t 6 rfl) (F.t 9 rfl)) fun a F => ?_
   refine as_ F rfl fun a F => ?_
   refine wpList_nil ?_
   replace F := F.only [2] (l' := [(2, _)]) rfl
   try dsimp only at k_1
   obtain rfl := Option.some.inj k_1
   exact ⟨_, rfl, F.only [2] rfl, H⟩
  rw [if_neg c3] at k_1
  rw [decide_eq_false c3] at F
  iterate 3 refine of_ F fun a F => ?_
  refine qw F (r_pickF (F.t 6 rfl) (F.k (.bool false))) fun a F => ?_
  refine as_ F rfl fun a F => ?_
  refine wpList_nil ?_
  replace F := F.only [2] (l' := [(2, _)]) rfl
  try dsimp only at k_1
  obtain rfl := Option.some.inj k_1
  exact ⟨_, rfl, F.only [2] rfl, H⟩
 rintro a w ⟨x1, rfl, F, H⟩
 try dsimp only at h F H
 refine wp_ret ?_
 try dsimp only at h
 obtain rfl := Option.some.inj h
 exact RET _ _ (ret1 F rfl rfl ⟨_, rfl, rfl, H⟩)
def region_entry_f (a0 : List Int) : Option (Bool) :=
 (((if (a0.length : Int) > 0 then some ((decide ((a0.length : Int) ≤ 50))) else some false) : Option (Bool)).bind fun x1 => some x1)
theorem region_entry_ok {w0 w : World} {ps : List PF} {fs : List SF} {a0 : List Int} {A0_ : Option Addr} {c0_ : Nat} {r0 : Bool} (H : Hp w0 ps fs w) (h : region_entry_f a0 = some r0) :
  Calls Try.prog 79 [.slice A0_ a0.length c0_].toArray w fun e w' => ∃ v, e = .returned v ∧ v = .bool r0 ∧ Hp w0 ps fs w' := by
 refine enter [.slice A0_ a0.length c0_] 11 Try.func79 fun Q a NP RET NRM F => ?_
 replace NP := np NP
 unfold region_entry_f at h
 refine rg ?_
 refine as_ F (v := .bool false) rfl fun a F => ?_
 refine rgend ?_
 refine wp_seq ?_
 obtain ⟨o_1, k_1, h⟩ := Option.bind_eq_some_iff.1 h
 refine cut (fun a w => ∃ (x1 : Bool), x1 = o_1 ∧ Fr 11 [] [(2, .bool x1)] a ∧ Hp w0 ps fs w) ?_ ?_
 ·skip
  refine wp_region_lit ?_
  refine mv F rfl fun a F => ?_
  refine qw F (r_len (F.t 3 rfl) Try.underlying29) fun a F => ?_
  refine qw F (r_gt (F.t 4 rfl) (F.k (.int .i64 0))) fun a F => ?_
  refine mv F rfl fun a F => ?_
  by_cases c3 : (a0.length : Int) > 0
  ·rw [if_pos c3] at k_1
   rw [decide_eq_true c3] at F
   refine mv F rfl fun a F => ?_
   refine qw F (r_len (F.t 7 rfl) Try.underlying29) fun a F => ?_
   refine qw F (r_le (F.t 8 rfl) (F.k (.int .i64 50))) fun a F => ?_
   refine qw F (r_pickT (F.t 6 rfl) (F.t 9 rfl)) fun a F => ?_
   refine as_ F rfl fun a F => ?_
   refine wpList_nil ?_
   replace F := F.only [2] (l' := [(2, _)]) rfl
   try dsimp only at k_1
   obtain rfl := Option.some.inj k_1
   exact ⟨_, rfl, F.only [2] rfl, H⟩
  rw [if_neg c3] at k_1
  rw [decide_eq_false c3] at F
  iterate 3 refine of_ F fun a F => ?_
  refine qw F (r_pickF (F.t 6 rfl) (F.k (.bool false))) fun a F => ?_
  refine as_ F rfl fun a F => ?_
  refine wpList_nil ?_
  replace F := F.only [2] (l' := [(2, _)]) rfl
  try dsimp only at k_1
  obtain rfl := Option.some.inj k_1
  exact ⟨_, rfl, F.only [2] rfl, H⟩
 rintro a w ⟨x1, rfl, F, H⟩
 try dsimp only at h F H
 refine wp_ret ?_
 try dsimp only at h
 obtain rfl := Option.some.inj h
 exact RET _ _ (ret1 F rfl rfl ⟨_, rfl, rfl, H⟩)
def region_parts_f (a0 : List Int) : Option (Int) :=
 some ((IntKind.i64.wrap ((IntKind.i64.wrap ((IntKind.i64.wrap ((a0.length : Int) - 1)).tdiv 50)) + 1)))
theorem region_parts_ok {w0 w : World} {ps : List PF} {fs : List SF} {a0 : List Int} {A0_ : Option Addr} {c0_ : Nat} {r0 : Int} (H : Hp w0 ps fs w) (h : region_parts_f a0 = some r0) :
  Calls Try.prog 80 [.slice A0_ a0.length c0_].toArray w fun e w' => ∃ v, e = .returned v ∧ v = .int .i64 r0 ∧ Hp w0 ps fs w' := by
 refine enter [.slice A0_ a0.length c0_] 8 Try.func80 fun Q a NP RET NRM F => ?_
 replace NP := np NP
 unfold region_parts_f at h
 refine rg ?_
 refine as_ F (v := .int .i64 0) rfl fun a F => ?_
 refine rgend ?_
 refine rg ?_
 refine mv F rfl fun a F => ?_
 refine qw F (r_len (F.t 3 rfl) Try.underlying29) fun a F => ?_
 refine qw F (r_sub (F.t 4 rfl) (F.k (.int .i64 1))) fun a F => ?_
 refine qw F (r_quo (F.t 5 rfl) (F.k (.int .i64 50)) (by decide)) fun a F => ?_
 refine qw F (r_add (F.t 6 rfl) (F.k (.int .i64 1))) fun a F => ?_
 refine as_ F rfl fun a F => ?_
 refine rgend ?_
 replace F := F.only [2] (l' := [(2, _)]) rfl
 refine wp_ret ?_
 try dsimp only at h
 obtain rfl := Option.some.inj h
 exact RET _ _ (ret1 F rfl rfl ⟨_, rfl, rfl, H⟩)
def region_Read_b0 (a0 : disk_Disk) (a1 : Int) (a2 : Int) (x3 : Int) (x5 : Int) (x6 : Int) : (Int × (List Int) × (List (List Int)) × (List (List Int))) → Option (Int × (List Int) × (List (List Int)) × (List (List Int)) ⊕ api_Region × Bool)
 | (x36, x37, x40, x43) => (((((if x36 ≥ a2 then some true else (if a1 < 0 then some true else ((disk_Disk_Sectors_f a0).bind fun x62 => some ((decide (x36 ≥ (IntKind.i64.wrap (x62 - a1)))))))) : Option (Bool)).bind fun x58 => (if x58 = true then some (0, 0, 0, 0, [], false) else ((disk_Disk_Read_f a0 (IntKind.i64.wrap (a1 + x36))).bind fun (x65, x66) => (if x66 ≠ 0 then some (0, 0, 0, 0, [], false) else ((sector_Get_f x65).bind fun (x71, x72) => some (x71.Gen, x71.Place, x71.Parts, x71.Kept, x71.Body, x72)))))) : Option (Int × Int × Int × Int × (List Int) × Bool)).bind fun (x47, x48, x49, x50, x51, x54) => (if x54 = true then (if x48 ≠ x36 then (if x36 < (IntKind.i64.wrap (x5 + x6)) then some (.inr (((⟨0, [], [], []⟩ : api_Region), false))) else some (.inr (((⟨x3, x37, x40, x43⟩ : api_Region), true)))) else (if x47 ≠ x3 then (if x36 < (IntKind.i64.wrap (x5 + x6)) then some (.inr (((⟨0, [], [], []⟩ : api_Region), false))) else some (.inr (((⟨x3, x37, x40, x43⟩ : api_Region), true)))) else (if x49 ≠ x5 then (if x36 < (IntKind.i64.wrap (x5 + x6)) then some (.inr (((⟨0, [], [], []⟩ : api_Region), false))) else some (.inr (((⟨x3, x37, x40, x43⟩ : api_Region), true)))) else (if x50 ≠ x6 then (if x36 < (IntKind.i64.wrap (x5 + x6)) then some (.inr (((⟨0, [], [], []⟩ : api_Region), false))) else some (.inr (((⟨x3, x37, x40, x43⟩ : api_Region), true)))) else (((if (IntKind.i64.wrap (x36 + 1)) < x49 then some ((decide ((x51.length : Int) < 50))) else some false) : Option (Bool)).bind fun x86 => (if x86 = true then some (.inr (((⟨0, [], [], []⟩ : api_Region), false))) else (((if (IntKind.i64.wrap (x36 + 1)) ≤ x49 then (if (x37.length + x51.length) * 1 ≤ 140737488355328 then some ((x37 ++ x51), x40, x43) else none) else (((if (IntKind.i64.wrap (x36 + 1)) ≤ (IntKind.i64.wrap (x5 + x6)) then (if (x40.length + 1) * 24 ≤ 140737488355328 then some ((x40 ++ ([x51])), x43) else none) else (if (x43.length + 1) * 24 ≤ 140737488355328 then some (x40, (x43 ++ ([x51]))) else none)) : Option ((List (List Int)) × (List (List Int)))).bind fun (x104, x107) => some (x37, x104, x107))) : Option ((List Int) × (List (List Int)) × (List (List Int)))).bind fun (x90, x93, x96) => some (.inl (IntKind.i64.wrap (x36 + 1), x90, x93, x96))))))))) else (if x36 < (IntKind.i64.wrap (x5 + x6)) then some (.inr (((⟨0, [], [], []⟩ : api_Region), false))) else some (.inr (((⟨x3, x37, x40, x43⟩ : api_Region), true))))))
def region_Read_f (a0 : disk_Disk) (a1 : Int) (a2 : Int) : Option (api_Region × Bool) :=
 (((((if 0 ≥ a2 then some true else (if a1 < 0 then some true else ((disk_Disk_Sectors_f a0).bind fun x18 => some ((decide (0 ≥ (IntKind.i64.wrap (x18 - a1)))))))) : Option (Bool)).bind fun x14 => (if x14 = true then some (0, 0, 0, 0, [], false) else ((disk_Disk_Read_f a0 (IntKind.i64.wrap (a1 + 0))).bind fun (x21, x22) => (if x22 ≠ 0 then some (0, 0, 0, 0, [], false) else ((sector_Get_f x21).bind fun (x27, x28) => some (x27.Gen, x27.Place, x27.Parts, x27.Kept, x27.Body, x28)))))) : Option (Int × Int × Int × Int × (List Int) × Bool)).bind fun (x3, x4, x5, x6, x7, x10) => (if x10 = true then (if (IntKind.i64.wrap (x5 + x6)) > a2 then some (((⟨0, [], [], []⟩ : api_Region), false)) else ((lp (region_Read_b0 a0 a1 a2 x3 x5 x6) (0, [], [], [])).bind fun r => some r)) else some (((⟨0, [], [], []⟩ : api_Region), false))))
theorem region_Read_ok {w0 w : World} {ps : List PF} {fs : List SF} {a0 : disk_Disk} {g0_ : Nat} {a1 : Int} {a2 : Int} {r0 : api_Region} {r1 : Bool} (H : Hp w0 ps (obj_disk_Disk g0_ a0 :: fs) w) (h : region_Read_f a0 a1 a2 = some (r0, r1)) :
  Calls Try.prog 37 [pt g0_, .int .i64 a1, .int .i64 a2].toArray w fun e w' => ∃ v, e = .returned v ∧ ∃ (A0_1 : Option Addr) (c0_1 : Nat) (A0_2 : Option Addr) (c0_2 : Nat) (A0_3 : Option Addr) (c0_3 : Nat), v = .tuple #[.agg #[.int .i64 r0.Gen, .slice A0_1 r0.State.length c0_1, .slice A0_2 r0.Kept.length c0_2, .slice A0_3 r0.More.length c0_3], .bool r1] ∧ Hp w0 (rd kByte A0_1 c0_1 r0.State :: rd (kSlice kByte) A0_2 c0_2 r0.Kept :: ps) (own (kSlice kByte) 29 A0_3 c0_3 r0.More :: obj_disk_Disk g0_ a0 :: fs) w' := by
 refine enter [pt g0_, .int .i64 a1, .int .i64 a2] 123 Try.func37 fun Q a NP RET NRM F => ?_
 replace NP := np NP
 unfold region_Read_f at h
 refine rg ?_
 refine ls (lal F H ti32 (cs := [.int .i64 0, .slice none 0 0, .slice none 0 0, .slice none 0 0]) rfl fun g1 w a H F => ?_)
 refine as_ F (v := .bool false) rfl fun a F => ?_
 refine rgend ?_
 refine wscope 0 rfl ?_
 refine rg ?_
 iterate 3 refine mv F rfl fun a F => ?_
 refine ls (lbd F (vs := [(0, pt g0_), (1, .int .i64 a1), (2, .int .i64 a2)]) (cs := [pt g0_, .int .i64 a1, .int .i64 a2]) rfl (fun w => by kernel_rfl) fun a F => ?_)
 refine ls (lal F H ti105 (cs := [.pointer none, .int .i64 0, .int .i64 0]) rfl fun g2 w a H F => ?_)
 refine stF F [.pointer (some ⟨g0_, 0, none⟩), .int .i64 a1, .int .i64 a2] H rfl rfl sz105 fun w a H F => ?_
 refine rgend ?_
 replace F := F.only [8, 6, 2] (l' := [(8, _), (6, _), (2, _)]) rfl
 refine rg ?_
 refine qw F (r_ldA (F.t 8 rfl) (cel_range (o := 0) (n := 3) (vs := [pt g0_, .int .i64 a1, .int .i64 a2]) (H.cell 0 rfl) rfl) agg105 rfl) fun a F => ?_
 obtain ⟨o_10, k_10, h⟩ := Option.bind_eq_some_iff.1 h
 refine ls (call F Try.func77 (R := fun v w => ∃ (x3 : Int) (x4 : Int) (x5 : Int) (x6 : Int) (x7 : List Int) (x10 : Bool), (x3, x4, x5, x6, x7, x10) = o_10 ∧ ∃ (A8 : Option Addr) (c9 : Nat), v = .tuple #[.agg #[.int .i64 x3, .int .i64 x4, .int .i64 x5, .int .i64 x6, .slice A8 x7.length c9], .bool x10] ∧ Hp w0 (rd kByte A8 c9 x7 :: ps) (cel g2 [pt g0_, .int .i64 a1, .int .i64 a2] 105 :: obj_disk_Disk g0_ a0 :: cel g1 [.int .i64 0, .slice none 0 0, .slice none 0 0, .slice none 0 0] 32 :: fs) w) (args := [.agg #[pt g0_, .int .i64 a1, .int .i64 a2], .int .i64 0]) (cap := []) ?_ rfl rfl ?_)
 ·refine enter [.agg #[pt g0_, .int .i64 a1, .int .i64 a2], .int .i64 0] 45 Try.func77 fun Q a NP RET NRM F => ?_
  replace NP := np NP
  refine rg ?_
  refine ls (lbox F H rfl (cs := [pt g0_, .int .i64 a1, .int .i64 a2]) rfl fun g12 w a H F => ?_)
  refine ls (lal F H ti53 (cs := [.int .i64 0, .int .i64 0, .int .i64 0, .int .i64 0, .slice none 0 0]) rfl fun g13 w a H F => ?_)
  refine as_ F (v := .bool false) rfl fun a F => ?_
  refine rgend ?_
  iterate 2 refine wp_seq ?_
  obtain ⟨o_14, k_14, k_10⟩ := Option.bind_eq_some_iff.1 k_10
  refine cut (fun a w => ∃ (x14 : Bool), x14 = o_14 ∧ Fr 45 [] [(1, .int .i64 0), (2, pt g12), (4, pt g13), (26, .bool x14)] a ∧ Hp w0 ps (cel g13 [.int .i64 0, .int .i64 0, .int .i64 0, .int .i64 0, .slice none 0 0] 53 :: cel g12 [pt g0_, .int .i64 a1, .int .i64 a2] 105 :: cel g2 [pt g0_, .int .i64 a1, .int .i64 a2] 105 :: obj_disk_Disk g0_ a0 :: cel g1 [.int .i64 0, .slice none 0 0, .slice none 0 0, .slice none 0 0] 32 :: fs) w) ?_ ?_
  ·skip
   replace H := H.drew
   have HS := H.fx4
   refine dr (fun w => Hp w0 ps (cel g13 [.int .i64 0, .int .i64 0, .int .i64 0, .int .i64 0, .slice none 0 0] 53 :: cel g12 [pt g0_, .int .i64 a1, .int .i64 a2] 105 :: cel g2 [pt g0_, .int .i64 a1, .int .i64 a2] 105 :: cel g1 [.int .i64 0, .slice none 0 0, .slice none 0 0, .slice none 0 0] 32 :: fs) w) _ (by kernel_rfl) ?_ (n := 19)
   refine dk 0 F rfl NP HS (fun w S => (r_mv (F.t 1 rfl))) fun a F => ?_
   refine dk 1 F rfl NP HS (fun w S => (r_fa (off := 2) (F.t 2 rfl) fa105_2)) fun a F => ?_
   refine dk 2 F rfl NP HS (fun w S => (r_ld (F.t 9 rfl) (cel_cell (o := 2) (S.cell 1 rfl) rfl) one3)) fun a F => ?_
   refine dk 3 F rfl NP HS (fun w S => (r_ge (F.t 8 rfl) (F.t 10 rfl))) fun a F => ?_
   refine dk 4 F rfl NP HS (fun w S => (r_mv (F.t 11 rfl))) fun a F => ?_
   by_cases c16 : 0 ≥ a2
   ·rw [if_pos c16] at k_14
    rw [decide_eq_true c16] at F
    refine df 5 F rfl NP HS fun a F => ?_
    refine df 6 F rfl NP HS fun a F => ?_
    refine df 7 F rfl NP HS fun a F => ?_
    refine dk 8 F rfl NP HS (fun w S => (r_pickT (F.t 12 rfl) (F.k (.bool true)))) fun a F => ?_
    refine dk 9 F rfl NP HS (fun w S => (r_mv (F.t 16 rfl))) fun a F => ?_
    refine df 10 F rfl NP HS fun a F => ?_
    refine df 11 F rfl NP HS fun a F => ?_
    refine df 12 F rfl NP HS fun a F => ?_
    refine df 13 F rfl NP HS fun a F => ?_
    refine df 14 F rfl NP HS fun a F => ?_
    refine df 15 F rfl NP HS fun a F => ?_
    refine df 16 F rfl NP HS fun a F => ?_
    refine df 17 F rfl NP HS fun a F => ?_
    refine dk 18 F rfl NP HS (fun w S => (r_pickT (F.t 17 rfl) (F.k (.bool true)))) fun a F => ?_
    refine ddone (by kernel_rfl) ?_
    replace F := F.only [26, 4, 2, 1] (l' := [(26, _), (4, _), (2, _), (1, _)]) rfl
    try dsimp only at k_14
    obtain rfl := Option.some.inj k_14
    exact ⟨_, rfl, F.only [1, 2, 4, 26] rfl, H.f3.f4.f4.f4.f4⟩
   rw [if_neg c16] at k_14
   rw [decide_eq_false c16] at F
   refine dk 5 F rfl NP HS (fun w S => (r_fa (off := 1) (F.t 2 rfl) fa105_1)) fun a F => ?_
   refine dk 6 F rfl NP HS (fun w S => (r_ld (F.t 13 rfl) (cel_cell (o := 1) (S.cell 1 rfl) rfl) one3)) fun a F => ?_
   refine dk 7 F rfl NP HS (fun w S => (r_lt (F.t 14 rfl) (F.k (.int .i64 0)))) fun a F => ?_
   refine dk 8 F rfl NP HS (fun w S => (r_pickF (F.t 12 rfl) (F.t 15 rfl))) fun a F => ?_
   refine dk 9 F rfl NP HS (fun w S => (r_mv (F.t 16 rfl))) fun a F => ?_
   by_cases c17 : a1 < 0
   ·rw [if_pos c17] at k_14
    rw [decide_eq_true c17] at F
    refine df 10 F rfl NP HS fun a F => ?_
    refine df 11 F rfl NP HS fun a F => ?_
    refine df 12 F rfl NP HS fun a F => ?_
    refine df 13 F rfl NP HS fun a F => ?_
    refine df 14 F rfl NP HS fun a F => ?_
    refine df 15 F rfl NP HS fun a F => ?_
    refine df 16 F rfl NP HS fun a F => ?_
    refine df 17 F rfl NP HS fun a F => ?_
    refine dk 18 F rfl NP HS (fun w S => (r_pickT (F.t 17 rfl) (F.k (.bool true)))) fun a F => ?_
    refine ddone (by kernel_rfl) ?_
    replace F := F.only [26, 4, 2, 1] (l' := [(26, _), (4, _), (2, _), (1, _)]) rfl
    try dsimp only at k_14
    obtain rfl := Option.some.inj k_14
    exact ⟨_, rfl, F.only [1, 2, 4, 26] rfl, H.f3.f4.f4.f4.f4⟩
   rw [if_neg c17] at k_14
   rw [decide_eq_false c17] at F
   refine dk 10 F rfl NP HS (fun w S => (r_mv (F.t 1 rfl))) fun a F => ?_
   refine dk 11 F rfl NP HS (fun w S => (r_fa (off := 0) (F.t 2 rfl) fa105_0)) fun a F => ?_
   refine dk 12 F rfl NP HS (fun w S => (r_ld (F.t 19 rfl) (cel_cell (o := 0) (S.cell 1 rfl) rfl) one24)) fun a F => ?_
   refine dk 14 F rfl NP HS (fun w S => (r_fa (off := 1) (F.t 2 rfl) fa105_1)) fun a F => ?_
   refine dk 15 F rfl NP HS (fun w S => (r_ld (F.t 22 rfl) (cel_cell (o := 1) (S.cell 1 rfl) rfl) one3)) fun a F => ?_
   obtain ⟨x18, e19, k_14⟩ := Option.bind_eq_some_iff.1 k_14
   try dsimp only at k_14
   refine d1 13 rfl (by kernel_rfl) (call F Try.func76 (disk_Disk_Sectors_ok (H.f3.f3.f3.f3.f4) e19) rfl rfl fun v w hR a F => ?_)
   obtain ⟨rfl, H⟩ := hR
   have HS := H.fx0
   refine kg _ HS (fun w S => S) ?_
   refine dk 16 F rfl NP HS (fun w S => (r_sub (F.t 21 rfl) (F.t 23 rfl))) fun a F => ?_
   refine dk 17 F rfl NP HS (fun w S => (r_ge (F.t 18 rfl) (F.t 24 rfl))) fun a F => ?_
   refine dk 18 F rfl NP HS (fun w S => (r_pickF (F.t 17 rfl) (F.t 25 rfl))) fun a F => ?_
   refine ddone (by kernel_rfl) ?_
   replace F := F.only [26, 4, 2, 1] (l' := [(26, _), (4, _), (2, _), (1, _)]) rfl
   try dsimp only at k_14
   obtain rfl := Option.some.inj k_14
   exact ⟨_, rfl, F.only [1, 2, 4, 26] rfl, H.f4.f1.f4.f4.f4⟩
  rintro a w ⟨x14, rfl, F, H⟩
  try dsimp only at k_10 F H
  by_cases c20 : x14 = true
  ·rw [if_pos c20] at k_10
   rw [c20] at F
   refine wp_cond_true (F.ev rfl) ?_
   refine rg ?_
   refine ls (lbd F (vs := []) (cs := [.int .i64 0, .int .i64 0, .int .i64 0, .int .i64 0, .slice none 0 0]) rfl (fun w => by kernel_rfl) fun a F => ?_)
   refine stF F [.int .i64 0, .int .i64 0, .int .i64 0, .int .i64 0, .slice none 0 0] H rfl rfl sz53 fun w a H F => ?_
   refine as_ F (v := .bool false) rfl fun a F => ?_
   refine rgend ?_
   replace F := F.only [5, 4] (l' := [(5, _), (4, _)]) rfl
   refine wp_ret ?_
   replace H := H.nilRd kByte
   try dsimp only at k_10
   obtain rfl := Option.some.inj k_10
   exact RET _ _ (retC2 F rfl rfl rfl (ldvA (cel_range (o := 0) (n := 5) (vs := [.int .i64 0, .int .i64 0, .int .i64 0, .int .i64 0, .slice none 0 0]) (H.cell 0 rfl) rfl) agg53 rfl) ⟨_, rfl, _, _, _, _, _, _, rfl, none, 0, rfl, H.fx1.fx0⟩)
  rw [if_neg c20] at k_10
  rw [Bool.eq_false_iff.2 c20] at F
  refine wp_cond_false (F.ev rfl) ?_
  refine wp_skip ?_
  refine rg ?_
  refine qw F (r_fa (off := 0) (F.t 2 rfl) fa105_0) fun a F => ?_
  refine qw F (r_ld (F.t 29 rfl) (cel_cell (o := 0) (H.cell 1 rfl) rfl) one24) fun a F => ?_
  refine qw F (r_fa (off := 1) (F.t 2 rfl) fa105_1) fun a F => ?_
  refine qw F (r_ld (F.t 31 rfl) (cel_cell (o := 1) (H.cell 1 rfl) rfl) one3) fun a F => ?_
  refine mv F rfl fun a F => ?_
  refine qw F (r_add (F.t 32 rfl) (F.t 33 rfl)) fun a F => ?_
  obtain ⟨⟨x21, x22⟩, e23, k_10⟩ := Option.bind_eq_some_iff.1 k_10
  try dsimp only at k_10
  refine ls (call F Try.func64 (disk_Disk_Read_ok (H.f4.f3.f3.f3.f4) e23) rfl rfl fun v w hR a F => ?_)
  obtain ⟨A24, c25, rfl, H⟩ := hR
  refine mv F rfl fun a F => ?_
  iterate 2 refine qw F (r_ex (F.t 28 rfl) rfl) fun a F => ?_
  iterate 2 refine as_ F rfl fun a F => ?_
  refine rgend ?_
  replace F := F.only [7, 6, 4] (l' := [(7, _), (6, _), (4, _)]) rfl
  refine wp_seq ?_
  refine rg ?_
  refine mv F rfl fun a F => ?_
  refine qw F (r_ne (F.t 38 rfl) (F.k (.int .i64 0))) fun a F => ?_
  refine rgend ?_
  by_cases c26 : x22 ≠ 0
  ·rw [if_pos c26] at k_10
   rw [decide_eq_true c26] at F
   refine wp_cond_true (F.ev rfl) ?_
   refine rg ?_
   refine ls (lbd F (vs := []) (cs := [.int .i64 0, .int .i64 0, .int .i64 0, .int .i64 0, .slice none 0 0]) rfl (fun w => by kernel_rfl) fun a F => ?_)
   refine stF F [.int .i64 0, .int .i64 0, .int .i64 0, .int .i64 0, .slice none 0 0] H.f5.f5.f5.f4.f4.f5 rfl rfl sz53 fun w a H F => ?_
   refine as_ F (v := .bool false) rfl fun a F => ?_
   refine rgend ?_
   replace F := F.only [5, 4] (l' := [(5, _), (4, _)]) rfl
   refine wp_ret ?_
   replace H := H.nilRd kByte
   try dsimp only at k_10
   obtain rfl := Option.some.inj k_10
   exact RET _ _ (retC2 F rfl rfl rfl (ldvA (cel_range (o := 0) (n := 5) (vs := [.int .i64 0, .int .i64 0, .int .i64 0, .int .i64 0, .slice none 0 0]) (H.cell 0 rfl) rfl) agg53 rfl) ⟨_, rfl, _, _, _, _, _, _, rfl, none, 0, rfl, H.f5.f3.f5.fx5.fx4.fx3⟩)
  rw [if_neg c26] at k_10
  rw [decide_eq_false c26] at F
  refine wp_cond_false (F.ev rfl) ?_
  refine wp_skip ?_
  refine rg ?_
  refine mv F rfl fun a F => ?_
  replace H := (H).freeze
  obtain ⟨⟨x27, x28⟩, e29, k_10⟩ := Option.bind_eq_some_iff.1 k_10
  try dsimp only at k_10
  refine ls (call F Try.func92 (sector_Get_ok (H.p0) e29) rfl rfl fun v w hR a F => ?_)
  obtain ⟨A30, c31, rfl, H⟩ := hR
  iterate 2 refine qw F (r_ex (F.t 42 rfl) rfl) fun a F => ?_
  refine stF F [.int .i64 x27.Gen, .int .i64 x27.Place, .int .i64 x27.Parts, .int .i64 x27.Kept, .slice A30 x27.Body.length c31] H.f4.f4.f4.f3.f4 rfl rfl sz53 fun w a H F => ?_
  refine as_ F rfl fun a F => ?_
  refine rgend ?_
  replace F := F.only [5, 4] (l' := [(5, _), (4, _)]) rfl
  refine wp_ret ?_
  try dsimp only at k_10
  obtain rfl := Option.some.inj k_10
  exact RET _ _ (retC2 F rfl rfl rfl (ldvA (cel_range (o := 0) (n := 5) (vs := [.int .i64 x27.Gen, .int .i64 x27.Place, .int .i64 x27.Parts, .int .i64 x27.Kept, .slice A30 x27.Body.length c31]) (H.cell 0 rfl) rfl) agg53 rfl) ⟨_, rfl, _, _, _, _, _, _, rfl, A30, c31, rfl, H.px1.f4.f2.f4.fx4.fx3⟩)
 rintro v w ⟨x3, x4, x5, x6, x7, x10, rfl, A8, c9, rfl, H⟩ a F
 try dsimp only at h F H
 refine mv F rfl fun a F => ?_
 iterate 2 refine qw F (r_ex (F.t 19 rfl) rfl) fun a F => ?_
 refine ls (lal F H ti53 (cs := [.int .i64 0, .int .i64 0, .int .i64 0, .int .i64 0, .slice none 0 0]) rfl fun g32 w a H F => ?_)
 refine stF F [.int .i64 x3, .int .i64 x4, .int .i64 x5, .int .i64 x6, .slice A8 x7.length c9] H rfl rfl sz53 fun w a H F => ?_
 refine as_ F rfl fun a F => ?_
 refine rgend ?_
 replace F := F.only [10, 9, 8, 6, 2] (l' := [(10, _), (9, _), (8, _), (6, _), (2, _)]) rfl
 refine rg ?_
 refine qw F (r_fa (off := 2) (F.t 9 rfl) fa53_2) fun a F => ?_
 refine qw F (r_ld (F.t 24 rfl) (cel_cell (o := 2) (H.cell 0 rfl) rfl) one3) fun a F => ?_
 refine qw F (r_fa (off := 3) (F.t 9 rfl) fa53_3) fun a F => ?_
 refine qw F (r_ld (F.t 26 rfl) (cel_cell (o := 3) (H.cell 0 rfl) rfl) one3) fun a F => ?_
 refine qw F (r_add (F.t 25 rfl) (F.t 27 rfl)) fun a F => ?_
 refine as_ F rfl fun a F => ?_
 refine rgend ?_
 replace F := F.only [11, 10, 9, 8, 6, 2] (l' := [(11, _), (10, _), (9, _), (8, _), (6, _), (2, _)]) rfl
 refine wp_seq ?_
 refine rg ?_
 refine mv F rfl fun a F => ?_
 refine qw F (r_not (F.t 29 rfl)) fun a F => ?_
 refine mv F rfl fun a F => ?_
 by_cases c33 : x10 = true
 ·rw [if_pos c33] at h
  rw [c33] at F
  iterate 2 refine mv F rfl fun a F => ?_
  refine qw F (r_gt (F.t 32 rfl) (F.t 33 rfl)) fun a F => ?_
  refine qw F (r_pickF (F.t 31 rfl) (F.t 34 rfl)) fun a F => ?_
  refine rgend ?_
  replace F := F.only [35, 11, 9, 8, 6] (l' := [(35, _), (11, _), (9, _), (8, _), (6, _)]) rfl
  by_cases c34 : (IntKind.i64.wrap (x5 + x6)) > a2
  ·rw [if_pos c34] at h
   rw [decide_eq_true c34] at F
   refine wp_cond_true (F.ev rfl) ?_
   refine rg ?_
   refine ls (lbd F (vs := []) (cs := [.int .i64 0, .slice none 0 0, .slice none 0 0, .slice none 0 0]) rfl (fun w => by kernel_rfl) fun a F => ?_)
   refine stF F [.int .i64 0, .slice none 0 0, .slice none 0 0, .slice none 0 0] H.f2.f2.f2.f3 rfl rfl sz32 fun w a H F => ?_
   refine as_ F (v := .bool false) rfl fun a F => ?_
   refine rgend ?_
   replace F := F.only [7, 6] (l' := [(7, _), (6, _)]) rfl
   refine wp_ret ?_
   replace H := H.nilRd kByte
   replace H := H.nilRd (kSlice kByte)
   replace H := H.nilOwn (kSlice kByte) 29
   try dsimp only at h
   obtain ⟨rfl, rfl⟩ := Prod.mk.inj (Option.some.inj h)
   exact RET _ _ (retC2 F rfl rfl rfl (ldvA (cel_range (o := 0) (n := 4) (vs := [.int .i64 0, .slice none 0 0, .slice none 0 0, .slice none 0 0]) (H.cell 1 rfl) rfl) agg32 rfl) ⟨_, rfl, none, 0, none, 0, none, 0, rfl, H.p0.p2.px2.px2.px2.fx3.fx2.fx1⟩)
  rw [if_neg c34] at h
  rw [decide_eq_false c34] at F
  refine wp_cond_false (F.ev rfl) ?_
  refine wp_skip ?_
  refine rg ?_
  refine qw F (r_fa (off := 0) (F.t 9 rfl) fa53_0) fun a F => ?_
  refine qw F (r_ld (F.t 37 rfl) (cel_cell (o := 0) (H.cell 0 rfl) rfl) one2) fun a F => ?_
  refine ls (lbd F (vs := [(0, .int .i64 x3)]) (cs := [.int .i64 x3, .slice none 0 0, .slice none 0 0, .slice none 0 0]) rfl (fun w => by kernel_rfl) fun a F => ?_)
  refine ls (lal F H ti32 (cs := [.int .i64 0, .slice none 0 0, .slice none 0 0, .slice none 0 0]) rfl fun g35 w a H F => ?_)
  refine stF F [.int .i64 x3, .slice none 0 0, .slice none 0 0, .slice none 0 0] H rfl rfl sz32 fun w a H F => ?_
  refine rgend ?_
  replace F := F.only [12, 11, 9, 8, 6] (l' := [(12, _), (11, _), (9, _), (8, _), (6, _)]) rfl
  refine rg ?_
  refine as_ F (v := .int .i64 0) rfl fun a F => ?_
  refine rgend ?_
  replace H := H.nilOwn kByte 5
  replace H := H.nilOwn (kSlice kByte) 29
  replace H := H.nilOwn (kSlice kByte) 29
  obtain ⟨o_45, k_45, h⟩ := Option.bind_eq_some_iff.1 h
  refine wp_seq (wp_label (wlabel rfl (region_Read_b0 a0 a1 a2 x3 x5 x6) (fun (s : Int × (List Int) × (List (List Int)) × (List (List Int))) a w => ∃ (A38 : Option Addr) (c39 : Nat) (A41 : Option Addr) (c42 : Nat) (A44 : Option Addr) (c45 : Nat), Fr 123 [] [(6, pt g1), (8, pt g2), (9, pt g32), (11, .int .i64 (IntKind.i64.wrap (x5 + x6))), (12, pt g35), (13, .int .i64 s.1)] a ∧ Hp w0 (rd kByte A8 c9 x7 :: ps) (own kByte 5 A38 c39 s.2.1 :: own (kSlice kByte) 29 A41 c42 s.2.2.1 :: own (kSlice kByte) 29 A44 c45 s.2.2.2 :: cel g2 [pt g0_, .int .i64 a1, .int .i64 a2] 105 :: cel g32 [.int .i64 x3, .int .i64 x4, .int .i64 x5, .int .i64 x6, .slice A8 x7.length c9] 53 :: obj_disk_Disk g0_ a0 :: cel g1 [.int .i64 0, .slice none 0 0, .slice none 0 0, .slice none 0 0] 32 :: cel g35 [.int .i64 x3, .slice A38 s.2.1.length c39, .slice A41 s.2.2.1.length c42, .slice A44 s.2.2.2.length c45] 32 :: fs) w) k_45 ⟨none, 0, none, 0, none, 0, F.only [6, 8, 9, 11, 12, 13] rfl, H.f3.f7.f7.f6.f7.f6.f6.f7⟩ ?_))
  rintro ⟨x36, x37, x40, x43⟩ a w q_45 j_45 u_45 ⟨A38, c39, A41, c42, A44, c45, F, H⟩
  unfold region_Read_b0 at j_45
  try dsimp only at j_45 F H
  refine rg ?_
  refine qw F (r_ldA (F.t 8 rfl) (cel_range (o := 0) (n := 3) (vs := [pt g0_, .int .i64 a1, .int .i64 a2]) (H.cell 3 rfl) rfl) agg105 rfl) fun a F => ?_
  refine mv F rfl fun a F => ?_
  obtain ⟨o_54, k_54, j_45⟩ := Option.bind_eq_some_iff.1 j_45
  refine ls (call F Try.func77 (R := fun v w => ∃ (x47 : Int) (x48 : Int) (x49 : Int) (x50 : Int) (x51 : List Int) (x54 : Bool), (x47, x48, x49, x50, x51, x54) = o_54 ∧ ∃ (A52 : Option Addr) (c53 : Nat), v = .tuple #[.agg #[.int .i64 x47, .int .i64 x48, .int .i64 x49, .int .i64 x50, .slice A52 x51.length c53], .bool x54] ∧ Hp w0 (rd kByte A52 c53 x51 :: rd kByte A8 c9 x7 :: ps) (own kByte 5 A38 c39 x37 :: own (kSlice kByte) 29 A41 c42 x40 :: own (kSlice kByte) 29 A44 c45 x43 :: cel g2 [pt g0_, .int .i64 a1, .int .i64 a2] 105 :: cel g32 [.int .i64 x3, .int .i64 x4, .int .i64 x5, .int .i64 x6, .slice A8 x7.length c9] 53 :: obj_disk_Disk g0_ a0 :: cel g1 [.int .i64 0, .slice none 0 0, .slice none 0 0, .slice none 0 0] 32 :: cel g35 [.int .i64 x3, .slice A38 x37.length c39, .slice A41 x40.length c42, .slice A44 x43.length c45] 32 :: fs) w) (args := [.agg #[pt g0_, .int .i64 a1, .int .i64 a2], .int .i64 x36]) (cap := []) ?_ rfl rfl ?_)
  ·refine enter [.agg #[pt g0_, .int .i64 a1, .int .i64 a2], .int .i64 x36] 45 Try.func77 fun Q a NP RET NRM F => ?_
   replace NP := np NP
   refine rg ?_
   refine ls (lbox F H rfl (cs := [pt g0_, .int .i64 a1, .int .i64 a2]) rfl fun g56 w a H F => ?_)
   refine ls (lal F H ti53 (cs := [.int .i64 0, .int .i64 0, .int .i64 0, .int .i64 0, .slice none 0 0]) rfl fun g57 w a H F => ?_)
   refine as_ F (v := .bool false) rfl fun a F => ?_
   refine rgend ?_
   iterate 2 refine wp_seq ?_
   obtain ⟨o_58, k_58, k_54⟩ := Option.bind_eq_some_iff.1 k_54
   refine cut (fun a w => ∃ (x58 : Bool), x58 = o_58 ∧ Fr 45 [] [(1, .int .i64 x36), (2, pt g56), (4, pt g57), (26, .bool x58)] a ∧ Hp w0 (rd kByte A8 c9 x7 :: ps) (own kByte 5 A38 c39 x37 :: own (kSlice kByte) 29 A41 c42 x40 :: own (kSlice kByte) 29 A44 c45 x43 :: cel g35 [.int .i64 x3, .slice A38 x37.length c39, .slice A41 x40.length c42, .slice A44 x43.length c45] 32 :: cel g2 [pt g0_, .int .i64 a1, .int .i64 a2] 105 :: cel g32 [.int .i64 x3, .int .i64 x4, .int .i64 x5, .int .i64 x6, .slice A8 x7.length c9] 53 :: obj_disk_Disk g0_ a0 :: cel g57 [.int .i64 0, .int .i64 0, .int .i64 0, .int .i64 0, .slice none 0 0] 53 :: cel g1 [.int .i64 0, .slice none 0 0, .slice none 0 0, .slice none 0 0] 32 :: cel g56 [pt g0_, .int .i64 a1, .int .i64 a2] 105 :: fs) w) ?_ ?_
   ·skip
    replace H := H.drew
    have HS := H.fx7.fx4.fx3.fx2
    refine dr (fun w => Hp w0 (rd kByte A8 c9 x7 :: ps) (cel g57 [.int .i64 0, .int .i64 0, .int .i64 0, .int .i64 0, .slice none 0 0] 53 :: cel g56 [pt g0_, .int .i64 a1, .int .i64 a2] 105 :: cel g2 [pt g0_, .int .i64 a1, .int .i64 a2] 105 :: cel g32 [.int .i64 x3, .int .i64 x4, .int .i64 x5, .int .i64 x6, .slice A8 x7.length c9] 53 :: cel g1 [.int .i64 0, .slice none 0 0, .slice none 0 0, .slice none 0 0] 32 :: cel g35 [.int .i64 x3, .slice A38 x37.length c39, .slice A41 x40.length c42, .slice A44 x43.length c45] 32 :: fs) w) _ (by kernel_rfl) ?_ (n := 19)
    refine dk 0 F rfl NP HS (fun w S => (r_mv (F.t 1 rfl))) fun a F => ?_
    refine dk 1 F rfl NP HS (fun w S => (r_fa (off := 2) (F.t 2 rfl) fa105_2)) fun a F => ?_
    refine dk 2 F rfl NP HS (fun w S => (r_ld (F.t 9 rfl) (cel_cell (o := 2) (S.cell 1 rfl) rfl) one3)) fun a F => ?_
    refine dk 3 F rfl NP HS (fun w S => (r_ge (F.t 8 rfl) (F.t 10 rfl))) fun a F => ?_
    refine dk 4 F rfl NP HS (fun w S => (r_mv (F.t 11 rfl))) fun a F => ?_
    by_cases c60 : x36 ≥ a2
    ·rw [if_pos c60] at k_58
     rw [decide_eq_true c60] at F
     refine df 5 F rfl NP HS fun a F => ?_
     refine df 6 F rfl NP HS fun a F => ?_
     refine df 7 F rfl NP HS fun a F => ?_
     refine dk 8 F rfl NP HS (fun w S => (r_pickT (F.t 12 rfl) (F.k (.bool true)))) fun a F => ?_
     refine dk 9 F rfl NP HS (fun w S => (r_mv (F.t 16 rfl))) fun a F => ?_
     refine df 10 F rfl NP HS fun a F => ?_
     refine df 11 F rfl NP HS fun a F => ?_
     refine df 12 F rfl NP HS fun a F => ?_
     refine df 13 F rfl NP HS fun a F => ?_
     refine df 14 F rfl NP HS fun a F => ?_
     refine df 15 F rfl NP HS fun a F => ?_
     refine df 16 F rfl NP HS fun a F => ?_
     refine df 17 F rfl NP HS fun a F => ?_
     refine dk 18 F rfl NP HS (fun w S => (r_pickT (F.t 17 rfl) (F.k (.bool true)))) fun a F => ?_
     refine ddone (by kernel_rfl) ?_
     replace F := F.only [26, 4, 2, 1] (l' := [(26, _), (4, _), (2, _), (1, _)]) rfl
     try dsimp only at k_58
     obtain rfl := Option.some.inj k_58
     exact ⟨_, rfl, F.only [1, 2, 4, 26] rfl, H.f1.f8.f2.f8.f8.f8.f9.f9.f9.f9⟩
    rw [if_neg c60] at k_58
    rw [decide_eq_false c60] at F
    refine dk 5 F rfl NP HS (fun w S => (r_fa (off := 1) (F.t 2 rfl) fa105_1)) fun a F => ?_
    refine dk 6 F rfl NP HS (fun w S => (r_ld (F.t 13 rfl) (cel_cell (o := 1) (S.cell 1 rfl) rfl) one3)) fun a F => ?_
    refine dk 7 F rfl NP HS (fun w S => (r_lt (F.t 14 rfl) (F.k (.int .i64 0)))) fun a F => ?_
    refine dk 8 F rfl NP HS (fun w S => (r_pickF (F.t 12 rfl) (F.t 15 rfl))) fun a F => ?_
    refine dk 9 F rfl NP HS (fun w S => (r_mv (F.t 16 rfl))) fun a F => ?_
    by_cases c61 : a1 < 0
    ·rw [if_pos c61] at k_58
     rw [decide_eq_true c61] at F
     refine df 10 F rfl NP HS fun a F => ?_
     refine df 11 F rfl NP HS fun a F => ?_
     refine df 12 F rfl NP HS fun a F => ?_
     refine df 13 F rfl NP HS fun a F => ?_
     refine df 14 F rfl NP HS fun a F => ?_
     refine df 15 F rfl NP HS fun a F => ?_
     refine df 16 F rfl NP HS fun a F => ?_
     refine df 17 F rfl NP HS fun a F => ?_
     refine dk 18 F rfl NP HS (fun w S => (r_pickT (F.t 17 rfl) (F.k (.bool true)))) fun a F => ?_
     refine ddone (by kernel_rfl) ?_
     replace F := F.only [26, 4, 2, 1] (l' := [(26, _), (4, _), (2, _), (1, _)]) rfl
     try dsimp only at k_58
     obtain rfl := Option.some.inj k_58
     exact ⟨_, rfl, F.only [1, 2, 4, 26] rfl, H.f1.f8.f2.f8.f8.f8.f9.f9.f9.f9⟩
    rw [if_neg c61] at k_58
    rw [decide_eq_false c61] at F
    refine dk 10 F rfl NP HS (fun w S => (r_mv (F.t 1 rfl))) fun a F => ?_
    refine dk 11 F rfl NP HS (fun w S => (r_fa (off := 0) (F.t 2 rfl) fa105_0)) fun a F => ?_
    refine dk 12 F rfl NP HS (fun w S => (r_ld (F.t 19 rfl) (cel_cell (o := 0) (S.cell 1 rfl) rfl) one24)) fun a F => ?_
    refine dk 14 F rfl NP HS (fun w S => (r_fa (off := 1) (F.t 2 rfl) fa105_1)) fun a F => ?_
    refine dk 15 F rfl NP HS (fun w S => (r_ld (F.t 22 rfl) (cel_cell (o := 1) (S.cell 1 rfl) rfl) one3)) fun a F => ?_
    obtain ⟨x62, e63, k_58⟩ := Option.bind_eq_some_iff.1 k_58
    try dsimp only at k_58
    refine d1 13 rfl (by kernel_rfl) (call F Try.func76 (disk_Disk_Sectors_ok (H.f9.f9.f8.f8.f8.f8.f8.f8.f8.f9) e63) rfl rfl fun v w hR a F => ?_)
    obtain ⟨rfl, H⟩ := hR
    have HS := H.fx5.fx4.fx3.fx0
    refine kg _ HS (fun w S => S) ?_
    refine dk 16 F rfl NP HS (fun w S => (r_sub (F.t 21 rfl) (F.t 23 rfl))) fun a F => ?_
    refine dk 17 F rfl NP HS (fun w S => (r_ge (F.t 18 rfl) (F.t 24 rfl))) fun a F => ?_
    refine dk 18 F rfl NP HS (fun w S => (r_pickF (F.t 17 rfl) (F.t 25 rfl))) fun a F => ?_
    refine ddone (by kernel_rfl) ?_
    replace F := F.only [26, 4, 2, 1] (l' := [(26, _), (4, _), (2, _), (1, _)]) rfl
    try dsimp only at k_58
    obtain rfl := Option.some.inj k_58
    exact ⟨_, rfl, F.only [1, 2, 4, 26] rfl, H.f2.f8.f3.f3.f8.f8.f9.f9.f9.f9⟩
   rintro a w ⟨x58, rfl, F, H⟩
   try dsimp only at k_54 F H
   by_cases c64 : x58 = true
   ·rw [if_pos c64] at k_54
    rw [c64] at F
    refine wp_cond_true (F.ev rfl) ?_
    refine rg ?_
    refine ls (lbd F (vs := []) (cs := [.int .i64 0, .int .i64 0, .int .i64 0, .int .i64 0, .slice none 0 0]) rfl (fun w => by kernel_rfl) fun a F => ?_)
    refine stF F [.int .i64 0, .int .i64 0, .int .i64 0, .int .i64 0, .slice none 0 0] H.f9.f9.f8.f8.f8.f8.f8.f8.f8.f9 rfl rfl sz53 fun w a H F => ?_
    refine as_ F (v := .bool false) rfl fun a F => ?_
    refine rgend ?_
    replace F := F.only [5, 4] (l' := [(5, _), (4, _)]) rfl
    refine wp_ret ?_
    replace H := H.nilRd kByte
    try dsimp only at k_54
    obtain rfl := Option.some.inj k_54
    exact RET _ _ (retC2 F rfl rfl rfl (ldvA (cel_range (o := 0) (n := 5) (vs := [.int .i64 0, .int .i64 0, .int .i64 0, .int .i64 0, .slice none 0 0]) (H.cell 0 rfl) rfl) agg53 rfl) ⟨_, rfl, _, _, _, _, _, _, rfl, none, 0, rfl, H.f4.f8.f8.f8.f8.f8.f8.f8.fx9.fx8⟩)
   rw [if_neg c64] at k_54
   rw [Bool.eq_false_iff.2 c64] at F
   refine wp_cond_false (F.ev rfl) ?_
   refine wp_skip ?_
   refine rg ?_
   refine qw F (r_fa (off := 0) (F.t 2 rfl) fa105_0) fun a F => ?_
   refine qw F (r_ld (F.t 29 rfl) (cel_cell (o := 0) (H.cell 9 rfl) rfl) one24) fun a F => ?_
   refine qw F (r_fa (off := 1) (F.t 2 rfl) fa105_1) fun a F => ?_
   refine qw F (r_ld (F.t 31 rfl) (cel_cell (o := 1) (H.cell 9 rfl) rfl) one3) fun a F => ?_
   refine mv F rfl fun a F => ?_
   refine qw F (r_add (F.t 32 rfl) (F.t 33 rfl)) fun a F => ?_
   obtain ⟨⟨x65, x66⟩, e67, k_54⟩ := Option.bind_eq_some_iff.1 k_54
   try dsimp only at k_54
   refine ls (call F Try.func64 (disk_Disk_Read_ok (H.f9.f9.f9.f8.f8.f8.f8.f8.f8.f9) e67) rfl rfl fun v w hR a F => ?_)
   obtain ⟨A68, c69, rfl, H⟩ := hR
   refine mv F rfl fun a F => ?_
   iterate 2 refine qw F (r_ex (F.t 28 rfl) rfl) fun a F => ?_
   iterate 2 refine as_ F rfl fun a F => ?_
   refine rgend ?_
   replace F := F.only [7, 6, 4] (l' := [(7, _), (6, _), (4, _)]) rfl
   refine wp_seq ?_
   refine rg ?_
   refine mv F rfl fun a F => ?_
   refine qw F (r_ne (F.t 38 rfl) (F.k (.int .i64 0))) fun a F => ?_
   refine rgend ?_
   by_cases c70 : x66 ≠ 0
   ·rw [if_pos c70] at k_54
    rw [decide_eq_true c70] at F
    refine wp_cond_true (F.ev rfl) ?_
    refine rg ?_
    refine ls (lbd F (vs := []) (cs := [.int .i64 0, .int .i64 0, .int .i64 0, .int .i64 0, .slice none 0 0]) rfl (fun w => by kernel_rfl) fun a F => ?_)
    refine stF F [.int .i64 0, .int .i64 0, .int .i64 0, .int .i64 0, .slice none 0 0] H.f10.f10.f9.f9.f9.f9.f9.f9.f9.f9.f10 rfl rfl sz53 fun w a H F => ?_
    refine as_ F (v := .bool false) rfl fun a F => ?_
    refine rgend ?_
    replace F := F.only [5, 4] (l' := [(5, _), (4, _)]) rfl
    refine wp_ret ?_
    replace H := H.nilRd kByte
    try dsimp only at k_54
    obtain rfl := Option.some.inj k_54
    exact RET _ _ (retC2 F rfl rfl rfl (ldvA (cel_range (o := 0) (n := 5) (vs := [.int .i64 0, .int .i64 0, .int .i64 0, .int .i64 0, .slice none 0 0]) (H.cell 0 rfl) rfl) agg53 rfl) ⟨_, rfl, _, _, _, _, _, _, rfl, none, 0, rfl, H.f6.f9.f4.f9.f9.f9.f9.f9.fx10.fx9.fx8⟩)
   rw [if_neg c70] at k_54
   rw [decide_eq_false c70] at F
   refine wp_cond_false (F.ev rfl) ?_
   refine wp_skip ?_
   refine rg ?_
   refine mv F rfl fun a F => ?_
   replace H := (H).freeze
   obtain ⟨⟨x71, x72⟩, e73, k_54⟩ := Option.bind_eq_some_iff.1 k_54
   try dsimp only at k_54
   refine ls (call F Try.func92 (sector_Get_ok (H.p0) e73) rfl rfl fun v w hR a F => ?_)
   obtain ⟨A74, c75, rfl, H⟩ := hR
   iterate 2 refine qw F (r_ex (F.t 42 rfl) rfl) fun a F => ?_
   refine stF F [.int .i64 x71.Gen, .int .i64 x71.Place, .int .i64 x71.Parts, .int .i64 x71.Kept, .slice A74 x71.Body.length c75] H.f9.f9.f8.f8.f8.f8.f8.f8.f8.f9 rfl rfl sz53 fun w a H F => ?_
   refine as_ F rfl fun a F => ?_
   refine rgend ?_
   replace F := F.only [5, 4] (l' := [(5, _), (4, _)]) rfl
   refine wp_ret ?_
   try dsimp only at k_54
   obtain rfl := Option.some.inj k_54
   exact RET _ _ (retC2 F rfl rfl rfl (ldvA (cel_range (o := 0) (n := 5) (vs := [.int .i64 x71.Gen, .int .i64 x71.Place, .int .i64 x71.Parts, .int .i64 x71.Kept, .slice A74 x71.Body.length c75]) (H.cell 0 rfl) rfl) agg53 rfl) ⟨_, rfl, _, _, _, _, _, _, rfl, A74, c75, rfl, H.px1.f5.f8.f3.f8.f8.f8.f8.f8.fx9.fx8⟩)
  rintro v w ⟨x47, x48, x49, x50, x51, x54, rfl, A52, c53, rfl, H⟩ a F
  try dsimp only at j_45 F H
  refine mv F rfl fun a F => ?_
  iterate 2 refine qw F (r_ex (F.t 40 rfl) rfl) fun a F => ?_
  refine ls (lal F H ti53 (cs := [.int .i64 0, .int .i64 0, .int .i64 0, .int .i64 0, .slice none 0 0]) rfl fun g76 w a H F => ?_)
  refine stF F [.int .i64 x47, .int .i64 x48, .int .i64 x49, .int .i64 x50, .slice A52 x51.length c53] H rfl rfl sz53 fun w a H F => ?_
  refine as_ F rfl fun a F => ?_
  refine rgend ?_
  replace F := F.only [10, 14, 6, 8, 9, 11, 12, 13] (l' := [(10, _), (14, _), (6, _), (8, _), (9, _), (11, _), (12, _), (13, _)]) rfl
  refine wp_seq ?_
  refine rg ?_
  refine mv F rfl fun a F => ?_
  refine qw F (r_not (F.t 46 rfl)) fun a F => ?_
  refine mv F rfl fun a F => ?_
  by_cases c77 : x54 = true
  ·rw [if_pos c77] at j_45
   rw [c77] at F
   refine qw F (r_fa (off := 1) (F.t 14 rfl) fa53_1) fun a F => ?_
   refine qw F (r_ld (F.t 49 rfl) (cel_cell (o := 1) (H.cell 0 rfl) rfl) one3) fun a F => ?_
   refine mv F rfl fun a F => ?_
   refine qw F (r_ne (F.t 50 rfl) (F.t 51 rfl)) fun a F => ?_
   refine qw F (r_pickF (F.t 48 rfl) (F.t 52 rfl)) fun a F => ?_
   refine mv F rfl fun a F => ?_
   by_cases c78 : x48 ≠ x36
   ·rw [if_pos c78] at j_45
    rw [decide_eq_true c78] at F
    iterate 5 refine of_ F fun a F => ?_
    refine qw F (r_pickT (F.t 54 rfl) (F.k (.bool true))) fun a F => ?_
    refine mv F rfl fun a F => ?_
    iterate 5 refine of_ F fun a F => ?_
    refine qw F (r_pickT (F.t 61 rfl) (F.k (.bool true))) fun a F => ?_
    refine mv F rfl fun a F => ?_
    iterate 5 refine of_ F fun a F => ?_
    refine qw F (r_pickT (F.t 68 rfl) (F.k (.bool true))) fun a F => ?_
    refine rgend ?_
    replace F := F.only [74, 14, 6, 8, 9, 11, 12, 13] (l' := [(74, _), (14, _), (6, _), (8, _), (9, _), (11, _), (12, _), (13, _)]) rfl
    refine wp_cond_true (F.ev rfl) ?_
    refine wp_seq ?_
    refine rg ?_
    iterate 2 refine mv F rfl fun a F => ?_
    refine qw F (r_lt (F.t 75 rfl) (F.t 76 rfl)) fun a F => ?_
    refine rgend ?_
    replace F := F.only [77, 6, 12] (l' := [(77, _), (6, _), (12, _)]) rfl
    by_cases c79 : x36 < (IntKind.i64.wrap (x5 + x6))
    ·rw [if_pos c79] at j_45
     rw [decide_eq_true c79] at F
     refine wp_cond_true (F.ev rfl) ?_
     refine rg ?_
     refine ls (lbd F (vs := []) (cs := [.int .i64 0, .slice none 0 0, .slice none 0 0, .slice none 0 0]) rfl (fun w => by kernel_rfl) fun a F => ?_)
     refine stF F [.int .i64 0, .slice none 0 0, .slice none 0 0, .slice none 0 0] H.f8.f7.f7.f7.f7.f7.f7.f7.f8 rfl rfl sz32 fun w a H F => ?_
     refine as_ F (v := .bool false) rfl fun a F => ?_
     refine rgend ?_
     refine wp_ret ?_
     replace H := H.nilRd kByte
     replace H := H.nilRd (kSlice kByte)
     replace H := H.nilOwn (kSlice kByte) 29
     try dsimp only at j_45
     obtain rfl := Option.some.inj j_45
     obtain rfl := u_45 _ rfl
     try dsimp only at h
     obtain ⟨rfl, rfl⟩ := Prod.mk.inj (Option.some.inj h)
     exact RET _ _ (retC2 F rfl rfl rfl (ldvA (cel_range (o := 0) (n := 4) (vs := [.int .i64 0, .slice none 0 0, .slice none 0 0, .slice none 0 0]) (H.cell 1 rfl) rfl) agg32 rfl) ⟨_, rfl, none, 0, none, 0, none, 0, rfl, H.p0.p2.px2.px2.px2.px2.fx9.fx7.fx6.fx5.fx4.fx3.fx2.fx1⟩)
    rw [if_neg c79] at j_45
    rw [decide_eq_false c79] at F
    refine wp_cond_false (F.ev rfl) ?_
    refine wp_skip ?_
    refine rg ?_
    refine qw F (r_ldA (F.t 12 rfl) (cel_range (o := 0) (n := 4) (vs := [.int .i64 x3, .slice A38 x37.length c39, .slice A41 x40.length c42, .slice A44 x43.length c45]) (H.cell 8 rfl) rfl) agg32 rfl) fun a F => ?_
    refine stF F [.int .i64 x3, .slice A38 x37.length c39, .slice A41 x40.length c42, .slice A44 x43.length c45] H.f8.f7.f7.f7.f7.f7.f7.f7.f8 rfl rfl sz32 fun w a H F => ?_
    refine as_ F (v := .bool true) rfl fun a F => ?_
    refine rgend ?_
    refine wp_ret ?_
    replace H := (H.f8.f8.f8.f8.f8.f8.f7.f7.f8).freeze
    replace H := (H.f7.f7.f7.f7.f7.f6.f6.f7).freeze
    try dsimp only at j_45
    obtain rfl := Option.some.inj j_45
    obtain rfl := u_45 _ rfl
    try dsimp only at h
    obtain ⟨rfl, rfl⟩ := Prod.mk.inj (Option.some.inj h)
    exact RET _ _ (retC2 F rfl rfl rfl (ldvA (cel_range (o := 0) (n := 4) (vs := [.int .i64 x3, .slice A38 x37.length c39, .slice A41 x40.length c42, .slice A44 x43.length c45]) (H.cell 0 rfl) rfl) agg32 rfl) ⟨_, rfl, A38, c39, A41, c42, A44, c45, rfl, H.p0.p2.px2.px2.px2.px2.fx6.fx4.fx3.fx1.fx0⟩)
   rw [if_neg c78] at j_45
   rw [decide_eq_false c78] at F
   refine qw F (r_fa (off := 0) (F.t 14 rfl) fa53_0) fun a F => ?_
   refine qw F (r_ld (F.t 55 rfl) (cel_cell (o := 0) (H.cell 0 rfl) rfl) one2) fun a F => ?_
   refine qw F (r_fa (off := 0) (F.t 9 rfl) fa53_0) fun a F => ?_
   refine qw F (r_ld (F.t 57 rfl) (cel_cell (o := 0) (H.cell 5 rfl) rfl) one2) fun a F => ?_
   refine qw F (r_ne (F.t 56 rfl) (F.t 58 rfl)) fun a F => ?_
   refine qw F (r_pickF (F.t 54 rfl) (F.t 59 rfl)) fun a F => ?_
   refine mv F rfl fun a F => ?_
   by_cases c80 : x47 ≠ x3
   ·rw [if_pos c80] at j_45
    rw [decide_eq_true c80] at F
    iterate 5 refine of_ F fun a F => ?_
    refine qw F (r_pickT (F.t 61 rfl) (F.k (.bool true))) fun a F => ?_
    refine mv F rfl fun a F => ?_
    iterate 5 refine of_ F fun a F => ?_
    refine qw F (r_pickT (F.t 68 rfl) (F.k (.bool true))) fun a F => ?_
    refine rgend ?_
    replace F := F.only [74, 14, 6, 8, 9, 11, 12, 13] (l' := [(74, _), (14, _), (6, _), (8, _), (9, _), (11, _), (12, _), (13, _)]) rfl
    refine wp_cond_true (F.ev rfl) ?_
    refine wp_seq ?_
    refine rg ?_
    iterate 2 refine mv F rfl fun a F => ?_
    refine qw F (r_lt (F.t 75 rfl) (F.t 76 rfl)) fun a F => ?_
    refine rgend ?_
    replace F := F.only [77, 6, 12] (l' := [(77, _), (6, _), (12, _)]) rfl
    by_cases c81 : x36 < (IntKind.i64.wrap (x5 + x6))
    ·rw [if_pos c81] at j_45
     rw [decide_eq_true c81] at F
     refine wp_cond_true (F.ev rfl) ?_
     refine rg ?_
     refine ls (lbd F (vs := []) (cs := [.int .i64 0, .slice none 0 0, .slice none 0 0, .slice none 0 0]) rfl (fun w => by kernel_rfl) fun a F => ?_)
     refine stF F [.int .i64 0, .slice none 0 0, .slice none 0 0, .slice none 0 0] H.f8.f7.f7.f7.f7.f7.f7.f7.f8 rfl rfl sz32 fun w a H F => ?_
     refine as_ F (v := .bool false) rfl fun a F => ?_
     refine rgend ?_
     refine wp_ret ?_
     replace H := H.nilRd kByte
     replace H := H.nilRd (kSlice kByte)
     replace H := H.nilOwn (kSlice kByte) 29
     try dsimp only at j_45
     obtain rfl := Option.some.inj j_45
     obtain rfl := u_45 _ rfl
     try dsimp only at h
     obtain ⟨rfl, rfl⟩ := Prod.mk.inj (Option.some.inj h)
     exact RET _ _ (retC2 F rfl rfl rfl (ldvA (cel_range (o := 0) (n := 4) (vs := [.int .i64 0, .slice none 0 0, .slice none 0 0, .slice none 0 0]) (H.cell 1 rfl) rfl) agg32 rfl) ⟨_, rfl, none, 0, none, 0, none, 0, rfl, H.p0.p2.px2.px2.px2.px2.fx9.fx7.fx6.fx5.fx4.fx3.fx2.fx1⟩)
    rw [if_neg c81] at j_45
    rw [decide_eq_false c81] at F
    refine wp_cond_false (F.ev rfl) ?_
    refine wp_skip ?_
    refine rg ?_
    refine qw F (r_ldA (F.t 12 rfl) (cel_range (o := 0) (n := 4) (vs := [.int .i64 x3, .slice A38 x37.length c39, .slice A41 x40.length c42, .slice A44 x43.length c45]) (H.cell 8 rfl) rfl) agg32 rfl) fun a F => ?_
    refine stF F [.int .i64 x3, .slice A38 x37.length c39, .slice A41 x40.length c42, .slice A44 x43.length c45] H.f8.f7.f7.f7.f7.f7.f7.f7.f8 rfl rfl sz32 fun w a H F => ?_
    refine as_ F (v := .bool true) rfl fun a F => ?_
    refine rgend ?_
    refine wp_ret ?_
    replace H := (H.f8.f8.f8.f8.f8.f8.f7.f7.f8).freeze
    replace H := (H.f7.f7.f7.f7.f7.f6.f6.f7).freeze
    try dsimp only at j_45
    obtain rfl := Option.some.inj j_45
    obtain rfl := u_45 _ rfl
    try dsimp only at h
    obtain ⟨rfl, rfl⟩ := Prod.mk.inj (Option.some.inj h)
    exact RET _ _ (retC2 F rfl rfl rfl (ldvA (cel_range (o := 0) (n := 4) (vs := [.int .i64 x3, .slice A38 x37.length c39, .slice A41 x40.length c42, .slice A44 x43.length c45]) (H.cell 0 rfl) rfl) agg32 rfl) ⟨_, rfl, A38, c39, A41, c42, A44, c45, rfl, H.p0.p2.px2.px2.px2.px2.fx6.fx4.fx3.fx1.fx0⟩)
   rw [if_neg c80] at j_45
   rw [decide_eq_false c80] at F
   refine qw F (r_fa (off := 2) (F.t 14 rfl) fa53_2) fun a F => ?_
   refine qw F (r_ld (F.t 62 rfl) (cel_cell (o := 2) (H.cell 0 rfl) rfl) one3) fun a F => ?_
   refine qw F (r_fa (off := 2) (F.t 9 rfl) fa53_2) fun a F => ?_
   refine qw F (r_ld (F.t 64 rfl) (cel_cell (o := 2) (H.cell 5 rfl) rfl) one3) fun a F => ?_
   refine qw F (r_ne (F.t 63 rfl) (F.t 65 rfl)) fun a F => ?_
   refine qw F (r_pickF (F.t 61 rfl) (F.t 66 rfl)) fun a F => ?_
   refine mv F rfl fun a F => ?_
   by_cases c82 : x49 ≠ x5
   ·rw [if_pos c82] at j_45
    rw [decide_eq_true c82] at F
    iterate 5 refine of_ F fun a F => ?_
    refine qw F (r_pickT (F.t 68 rfl) (F.k (.bool true))) fun a F => ?_
    refine rgend ?_
    replace F := F.only [74, 14, 6, 8, 9, 11, 12, 13] (l' := [(74, _), (14, _), (6, _), (8, _), (9, _), (11, _), (12, _), (13, _)]) rfl
    refine wp_cond_true (F.ev rfl) ?_
    refine wp_seq ?_
    refine rg ?_
    iterate 2 refine mv F rfl fun a F => ?_
    refine qw F (r_lt (F.t 75 rfl) (F.t 76 rfl)) fun a F => ?_
    refine rgend ?_
    replace F := F.only [77, 6, 12] (l' := [(77, _), (6, _), (12, _)]) rfl
    by_cases c83 : x36 < (IntKind.i64.wrap (x5 + x6))
    ·rw [if_pos c83] at j_45
     rw [decide_eq_true c83] at F
     refine wp_cond_true (F.ev rfl) ?_
     refine rg ?_
     refine ls (lbd F (vs := []) (cs := [.int .i64 0, .slice none 0 0, .slice none 0 0, .slice none 0 0]) rfl (fun w => by kernel_rfl) fun a F => ?_)
     refine stF F [.int .i64 0, .slice none 0 0, .slice none 0 0, .slice none 0 0] H.f8.f7.f7.f7.f7.f7.f7.f7.f8 rfl rfl sz32 fun w a H F => ?_
     refine as_ F (v := .bool false) rfl fun a F => ?_
     refine rgend ?_
     refine wp_ret ?_
     replace H := H.nilRd kByte
     replace H := H.nilRd (kSlice kByte)
     replace H := H.nilOwn (kSlice kByte) 29
     try dsimp only at j_45
     obtain rfl := Option.some.inj j_45
     obtain rfl := u_45 _ rfl
     try dsimp only at h
     obtain ⟨rfl, rfl⟩ := Prod.mk.inj (Option.some.inj h)
     exact RET _ _ (retC2 F rfl rfl rfl (ldvA (cel_range (o := 0) (n := 4) (vs := [.int .i64 0, .slice none 0 0, .slice none 0 0, .slice none 0 0]) (H.cell 1 rfl) rfl) agg32 rfl) ⟨_, rfl, none, 0, none, 0, none, 0, rfl, H.p0.p2.px2.px2.px2.px2.fx9.fx7.fx6.fx5.fx4.fx3.fx2.fx1⟩)
    rw [if_neg c83] at j_45
    rw [decide_eq_false c83] at F
    refine wp_cond_false (F.ev rfl) ?_
    refine wp_skip ?_
    refine rg ?_
    refine qw F (r_ldA (F.t 12 rfl) (cel_range (o := 0) (n := 4) (vs := [.int .i64 x3, .slice A38 x37.length c39, .slice A41 x40.length c42, .slice A44 x43.length c45]) (H.cell 8 rfl) rfl) agg32 rfl) fun a F => ?_
    refine stF F [.int .i64 x3, .slice A38 x37.length c39, .slice A41 x40.length c42, .slice A44 x43.length c45] H.f8.f7.f7.f7.f7.f7.f7.f7.f8 rfl rfl sz32 fun w a H F => ?_
    refine as_ F (v := .bool true) rfl fun a F => ?_
    refine rgend ?_
    refine wp_ret ?_
    replace H := (H.f8.f8.f8.f8.f8.f8.f7.f7.f8).freeze
    replace H := (H.f7.f7.f7.f7.f7.f6.f6.f7).freeze
    try dsimp only at j_45
    obtain rfl := Option.some.inj j_45
    obtain rfl := u_45 _ rfl
    try dsimp only at h
    obtain ⟨rfl, rfl⟩ := Prod.mk.inj (Option.some.inj h)
    exact RET _ _ (retC2 F rfl rfl rfl (ldvA (cel_range (o := 0) (n := 4) (vs := [.int .i64 x3, .slice A38 x37.length c39, .slice A41 x40.length c42, .slice A44 x43.length c45]) (H.cell 0 rfl) rfl) agg32 rfl) ⟨_, rfl, A38, c39, A41, c42, A44, c45, rfl, H.p0.p2.px2.px2.px2.px2.fx6.fx4.fx3.fx1.fx0⟩)
   rw [if_neg c82] at j_45
   rw [decide_eq_false c82] at F
   refine qw F (r_fa (off := 3) (F.t 14 rfl) fa53_3) fun a F => ?_
   refine qw F (r_ld (F.t 69 rfl) (cel_cell (o := 3) (H.cell 0 rfl) rfl) one3) fun a F => ?_
   refine qw F (r_fa (off := 3) (F.t 9 rfl) fa53_3) fun a F => ?_
   refine qw F (r_ld (F.t 71 rfl) (cel_cell (o := 3) (H.cell 5 rfl) rfl) one3) fun a F => ?_
   refine qw F (r_ne (F.t 70 rfl) (F.t 72 rfl)) fun a F => ?_
   refine qw F (r_pickF (F.t 68 rfl) (F.t 73 rfl)) fun a F => ?_
   refine rgend ?_
   replace F := F.only [74, 14, 6, 8, 9, 11, 12, 13] (l' := [(74, _), (14, _), (6, _), (8, _), (9, _), (11, _), (12, _), (13, _)]) rfl
   by_cases c84 : x50 ≠ x6
   ·rw [if_pos c84] at j_45
    rw [decide_eq_true c84] at F
    refine wp_cond_true (F.ev rfl) ?_
    refine wp_seq ?_
    refine rg ?_
    iterate 2 refine mv F rfl fun a F => ?_
    refine qw F (r_lt (F.t 75 rfl) (F.t 76 rfl)) fun a F => ?_
    refine rgend ?_
    replace F := F.only [77, 6, 12] (l' := [(77, _), (6, _), (12, _)]) rfl
    by_cases c85 : x36 < (IntKind.i64.wrap (x5 + x6))
    ·rw [if_pos c85] at j_45
     rw [decide_eq_true c85] at F
     refine wp_cond_true (F.ev rfl) ?_
     refine rg ?_
     refine ls (lbd F (vs := []) (cs := [.int .i64 0, .slice none 0 0, .slice none 0 0, .slice none 0 0]) rfl (fun w => by kernel_rfl) fun a F => ?_)
     refine stF F [.int .i64 0, .slice none 0 0, .slice none 0 0, .slice none 0 0] H.f8.f7.f7.f7.f7.f7.f7.f7.f8 rfl rfl sz32 fun w a H F => ?_
     refine as_ F (v := .bool false) rfl fun a F => ?_
     refine rgend ?_
     refine wp_ret ?_
     replace H := H.nilRd kByte
     replace H := H.nilRd (kSlice kByte)
     replace H := H.nilOwn (kSlice kByte) 29
     try dsimp only at j_45
     obtain rfl := Option.some.inj j_45
     obtain rfl := u_45 _ rfl
     try dsimp only at h
     obtain ⟨rfl, rfl⟩ := Prod.mk.inj (Option.some.inj h)
     exact RET _ _ (retC2 F rfl rfl rfl (ldvA (cel_range (o := 0) (n := 4) (vs := [.int .i64 0, .slice none 0 0, .slice none 0 0, .slice none 0 0]) (H.cell 1 rfl) rfl) agg32 rfl) ⟨_, rfl, none, 0, none, 0, none, 0, rfl, H.p0.p2.px2.px2.px2.px2.fx9.fx7.fx6.fx5.fx4.fx3.fx2.fx1⟩)
    rw [if_neg c85] at j_45
    rw [decide_eq_false c85] at F
    refine wp_cond_false (F.ev rfl) ?_
    refine wp_skip ?_
    refine rg ?_
    refine qw F (r_ldA (F.t 12 rfl) (cel_range (o := 0) (n := 4) (vs := [.int .i64 x3, .slice A38 x37.length c39, .slice A41 x40.length c42, .slice A44 x43.length c45]) (H.cell 8 rfl) rfl) agg32 rfl) fun a F => ?_
    refine stF F [.int .i64 x3, .slice A38 x37.length c39, .slice A41 x40.length c42, .slice A44 x43.length c45] H.f8.f7.f7.f7.f7.f7.f7.f7.f8 rfl rfl sz32 fun w a H F => ?_
    refine as_ F (v := .bool true) rfl fun a F => ?_
    refine rgend ?_
    refine wp_ret ?_
    replace H := (H.f8.f8.f8.f8.f8.f8.f7.f7.f8).freeze
    replace H := (H.f7.f7.f7.f7.f7.f6.f6.f7).freeze
    try dsimp only at j_45
    obtain rfl := Option.some.inj j_45
    obtain rfl := u_45 _ rfl
    try dsimp only at h
    obtain ⟨rfl, rfl⟩ := Prod.mk.inj (Option.some.inj h)
    exact RET _ _ (retC2 F rfl rfl rfl (ldvA (cel_range (o := 0) (n := 4) (vs := [.int .i64 x3, .slice A38 x37.length c39, .slice A41 x40.length c42, .slice A44 x43.length c45]) (H.cell 0 rfl) rfl) agg32 rfl) ⟨_, rfl, A38, c39, A41, c42, A44, c45, rfl, H.p0.p2.px2.px2.px2.px2.fx6.fx4.fx3.fx1.fx0⟩)
   rw [if_neg c84] at j_45
   rw [decide_eq_false c84] at F
   refine wp_cond_false (F.ev rfl) ?_
   refine wp_skip ?_
   refine wp_seq ?_
   refine rg ?_
   refine mv F rfl fun a F => ?_
   refine qw F (r_add (F.t 80 rfl) (F.k (.int .i64 1))) fun a F => ?_
   refine as_ F rfl fun a F => ?_
   refine rgend ?_
   replace F := F.only [13, 14, 6, 8, 9, 11, 12] (l' := [(13, _), (14, _), (6, _), (8, _), (9, _), (11, _), (12, _)]) rfl
   refine wp_block ?_
   refine wp_seq ?_
   obtain ⟨o_86, k_86, j_45⟩ := Option.bind_eq_some_iff.1 j_45
   refine cut (fun a w => ∃ (x86 : Bool), x86 = o_86 ∧ Fr 123 [] [(6, pt g1), (8, pt g2), (9, pt g32), (11, .int .i64 (IntKind.i64.wrap (x5 + x6))), (12, pt g35), (13, .int .i64 (IntKind.i64.wrap (x36 + 1))), (14, pt g76), (89, .bool x86)] a ∧ Hp w0 (rd kByte A8 c9 x7 :: rd kByte A52 c53 x51 :: ps) (own kByte 5 A38 c39 x37 :: own (kSlice kByte) 29 A41 c42 x40 :: own (kSlice kByte) 29 A44 c45 x43 :: cel g2 [pt g0_, .int .i64 a1, .int .i64 a2] 105 :: cel g32 [.int .i64 x3, .int .i64 x4, .int .i64 x5, .int .i64 x6, .slice A8 x7.length c9] 53 :: cel g76 [.int .i64 x47, .int .i64 x48, .int .i64 x49, .int .i64 x50, .slice A52 x51.length c53] 53 :: obj_disk_Disk g0_ a0 :: cel g1 [.int .i64 0, .slice none 0 0, .slice none 0 0, .slice none 0 0] 32 :: cel g35 [.int .i64 x3, .slice A38 x37.length c39, .slice A41 x40.length c42, .slice A44 x43.length c45] 32 :: fs) w) ?_ ?_
   ·skip
    refine wp_region_lit ?_
    refine mv F rfl fun a F => ?_
    refine qw F (r_fa (off := 2) (F.t 14 rfl) fa53_2) fun a F => ?_
    refine qw F (r_ld (F.t 91 rfl) (cel_cell (o := 2) (H.cell 0 rfl) rfl) one3) fun a F => ?_
    refine qw F (r_lt (F.t 90 rfl) (F.t 92 rfl)) fun a F => ?_
    refine mv F rfl fun a F => ?_
    by_cases c88 : (IntKind.i64.wrap (x36 + 1)) < x49
    ·rw [if_pos c88] at k_86
     rw [decide_eq_true c88] at F
     refine qw F (r_fa (off := 4) (F.t 14 rfl) fa53_4) fun a F => ?_
     refine qw F (r_ld (F.t 95 rfl) (cel_cell (o := 4) (H.cell 0 rfl) rfl) one29) fun a F => ?_
     refine qw F (r_len (F.t 96 rfl) Try.underlying29) fun a F => ?_
     refine qw F (r_lt (F.t 97 rfl) (F.k (.int .i64 50))) fun a F => ?_
     refine qw F (r_pickT (F.t 94 rfl) (F.t 98 rfl)) fun a F => ?_
     refine as_ F rfl fun a F => ?_
     refine wpList_nil ?_
     replace F := F.only [89, 13, 14, 6, 8, 9, 11, 12] (l' := [(89, _), (13, _), (14, _), (6, _), (8, _), (9, _), (11, _), (12, _)]) rfl
     try dsimp only at k_86
     obtain rfl := Option.some.inj k_86
     exact ⟨_, rfl, F.only [6, 8, 9, 11, 12, 13, 14, 89] rfl, H.p0.p2.px2.px2.f8.f8.f8.f3.f8.f8.f8.f8.f8⟩
    rw [if_neg c88] at k_86
    rw [decide_eq_false c88] at F
    iterate 4 refine of_ F fun a F => ?_
    refine qw F (r_pickF (F.t 94 rfl) (F.k (.bool false))) fun a F => ?_
    refine as_ F rfl fun a F => ?_
    refine wpList_nil ?_
    replace F := F.only [89, 13, 14, 6, 8, 9, 11, 12] (l' := [(89, _), (13, _), (14, _), (6, _), (8, _), (9, _), (11, _), (12, _)]) rfl
    try dsimp only at k_86
    obtain rfl := Option.some.inj k_86
    exact ⟨_, rfl, F.only [6, 8, 9, 11, 12, 13, 14, 89] rfl, H.p0.p2.px2.px2.f8.f8.f8.f3.f8.f8.f8.f8.f8⟩
   rintro a w ⟨x86, rfl, F, H⟩
   try dsimp only at j_45 F H
   by_cases c89 : x86 = true
   ·rw [if_pos c89] at j_45
    rw [c89] at F
    refine wp_cond_true (F.ev rfl) ?_
    refine rg ?_
    refine ls (lbd F (vs := []) (cs := [.int .i64 0, .slice none 0 0, .slice none 0 0, .slice none 0 0]) rfl (fun w => by kernel_rfl) fun a F => ?_)
    refine stF F [.int .i64 0, .slice none 0 0, .slice none 0 0, .slice none 0 0] H.f8.f7.f7.f7.f7.f7.f7.f7.f8 rfl rfl sz32 fun w a H F => ?_
    refine as_ F (v := .bool false) rfl fun a F => ?_
    refine rgend ?_
    replace F := F.only [7, 6] (l' := [(7, _), (6, _)]) rfl
    refine wp_ret ?_
    replace H := H.nilRd kByte
    replace H := H.nilRd (kSlice kByte)
    replace H := H.nilOwn (kSlice kByte) 29
    try dsimp only at j_45
    obtain rfl := Option.some.inj j_45
    obtain rfl := u_45 _ rfl
    try dsimp only at h
    obtain ⟨rfl, rfl⟩ := Prod.mk.inj (Option.some.inj h)
    exact RET _ _ (retC2 F rfl rfl rfl (ldvA (cel_range (o := 0) (n := 4) (vs := [.int .i64 0, .slice none 0 0, .slice none 0 0, .slice none 0 0]) (H.cell 1 rfl) rfl) agg32 rfl) ⟨_, rfl, none, 0, none, 0, none, 0, rfl, H.p0.p2.px2.px2.px2.px2.fx9.fx7.fx6.fx5.fx4.fx3.fx2.fx1⟩)
   rw [if_neg c89] at j_45
   rw [Bool.eq_false_iff.2 c89] at F
   refine wp_cond_false (F.ev rfl) ?_
   refine rg ?_
   refine mv F rfl fun a F => ?_
   refine qw F (r_fa (off := 2) (F.t 14 rfl) fa53_2) fun a F => ?_
   refine qw F (r_ld (F.t 103 rfl) (cel_cell (o := 2) (H.cell 5 rfl) rfl) one3) fun a F => ?_
   refine qw F (r_le (F.t 102 rfl) (F.t 104 rfl)) fun a F => ?_
   refine as_ F rfl fun a F => ?_
   refine rgend ?_
   replace F := F.only [101, 6, 8, 9, 11, 12, 13, 14] (l' := [(101, _), (6, _), (8, _), (9, _), (11, _), (12, _), (13, _), (14, _)]) rfl
   obtain ⟨o_98, k_98, j_45⟩ := Option.bind_eq_some_iff.1 j_45
   refine cut (fun a w => ∃ (x90 : List Int) (x93 : List (List Int)) (x96 : List (List Int)), (x90, x93, x96) = o_98 ∧ ∃ (A91 : Option Addr) (c92 : Nat) (A94 : Option Addr) (c95 : Nat) (A97 : Option Addr) (c98 : Nat), Fr 123 [] [(6, pt g1), (8, pt g2), (9, pt g32), (11, .int .i64 (IntKind.i64.wrap (x5 + x6))), (12, pt g35), (13, .int .i64 (IntKind.i64.wrap (x36 + 1)))] a ∧ Hp w0 (rd kByte A8 c9 x7 :: ps) (own kByte 5 A91 c92 x90 :: own (kSlice kByte) 29 A94 c95 x93 :: own (kSlice kByte) 29 A97 c98 x96 :: cel g2 [pt g0_, .int .i64 a1, .int .i64 a2] 105 :: cel g32 [.int .i64 x3, .int .i64 x4, .int .i64 x5, .int .i64 x6, .slice A8 x7.length c9] 53 :: obj_disk_Disk g0_ a0 :: cel g1 [.int .i64 0, .slice none 0 0, .slice none 0 0, .slice none 0 0] 32 :: cel g35 [.int .i64 x3, .slice A91 x90.length c92, .slice A94 x93.length c95, .slice A97 x96.length c98] 32 :: fs) w) ?_ ?_
   ·skip
    by_cases c100 : (IntKind.i64.wrap (x36 + 1)) ≤ x49
    ·rw [if_pos c100] at k_98
     rw [decide_eq_true c100] at F
     refine wp_cond_true (F.ev rfl) ?_
     refine wp_region_lit ?_
     refine qw F (r_fa (off := 1) (F.t 12 rfl) fa32_1) fun a F => ?_
     refine qw F (r_ld (F.t 106 rfl) (cel_cell (o := 1) (H.cell 8 rfl) rfl) one29) fun a F => ?_
     refine qw F (r_fa (off := 4) (F.t 14 rfl) fa53_4) fun a F => ?_
     refine qw F (r_ld (F.t 108 rfl) (cel_cell (o := 4) (H.cell 5 rfl) rfl) one29) fun a F => ?_
     obtain ⟨c101, k_98⟩ := guardO k_98
     obtain ⟨A102, c103, _, hr, H⟩ := Hp.appendRd (kd := kByte) (xs := x37) (ys := x51) (H) 1 rfl (F.t 107 rfl) (F.t 109 rfl) Try.underlying29 ti5 rfl (by decide) (by decide) c101
     refine qw F (hr _ _ _ _ _) fun a F => ?_
     refine qw F (r_fa (off := 1) (F.t 12 rfl) fa32_1) fun a F => ?_
     refine sto F [.slice A102 (x37 ++ x51).length c103] [.int .i64 x3, .slice A102 (x37 ++ x51).length c103, .slice A41 x40.length c42, .slice A44 x43.length c45] H.f7.f7.f7.f7.f7.f7.f7.f7.f8 rfl rfl sz29 fun w a H F => ?_
     refine wpList_nil ?_
     replace F := F.only [6, 8, 9, 11, 12, 13] (l' := [(6, _), (8, _), (9, _), (11, _), (12, _), (13, _)]) rfl
     try dsimp only at k_98
     obtain rfl := Option.some.inj k_98
     exact ⟨_, _, _, rfl, A102, c103, A41, c42, A44, c45, F.only [6, 8, 9, 11, 12, 13] rfl, H.px1.f8.f8.f7.f7.f7.f7.f7.fx8⟩
    rw [if_neg c100] at k_98
    rw [decide_eq_false c100] at F
    refine wp_cond_false (F.ev rfl) ?_
    refine rg ?_
    iterate 2 refine mv F rfl fun a F => ?_
    refine qw F (r_le (F.t 113 rfl) (F.t 114 rfl)) fun a F => ?_
    refine as_ F rfl fun a F => ?_
    refine rgend ?_
    replace F := F.only [112, 6, 8, 9, 11, 12, 13, 14] (l' := [(112, _), (6, _), (8, _), (9, _), (11, _), (12, _), (13, _), (14, _)]) rfl
    obtain ⟨o_109, k_109, k_98⟩ := Option.bind_eq_some_iff.1 k_98
    refine cut (fun a w => ∃ (x104 : List (List Int)) (x107 : List (List Int)), (x104, x107) = o_109 ∧ ∃ (A105 : Option Addr) (c106 : Nat) (A108 : Option Addr) (c109 : Nat), Fr 123 [] [(6, pt g1), (8, pt g2), (9, pt g32), (11, .int .i64 (IntKind.i64.wrap (x5 + x6))), (12, pt g35), (13, .int .i64 (IntKind.i64.wrap (x36 + 1)))] a ∧ Hp w0 (rd kByte A8 c9 x7 :: ps) (own (kSlice kByte) 29 A105 c106 x104 :: own (kSlice kByte) 29 A108 c109 x107 :: own kByte 5 A38 c39 x37 :: cel g2 [pt g0_, .int .i64 a1, .int .i64 a2] 105 :: cel g32 [.int .i64 x3, .int .i64 x4, .int .i64 x5, .int .i64 x6, .slice A8 x7.length c9] 53 :: obj_disk_Disk g0_ a0 :: cel g1 [.int .i64 0, .slice none 0 0, .slice none 0 0, .slice none 0 0] 32 :: cel g35 [.int .i64 x3, .slice A38 x37.length c39, .slice A105 x104.length c106, .slice A108 x107.length c109] 32 :: fs) w) ?_ ?_
    ·skip
     by_cases c111 : (IntKind.i64.wrap (x36 + 1)) ≤ (IntKind.i64.wrap (x5 + x6))
     ·rw [if_pos c111] at k_109
      rw [decide_eq_true c111] at F
      refine wp_cond_true (F.ev rfl) ?_
      refine wp_region_lit ?_
      refine qw F (r_fa (off := 2) (F.t 12 rfl) fa32_2) fun a F => ?_
      refine qw F (r_ld (F.t 116 rfl) (cel_cell (o := 2) (H.cell 8 rfl) rfl) one30) fun a F => ?_
      refine qw F (r_fa (off := 4) (F.t 14 rfl) fa53_4) fun a F => ?_
      refine qw F (r_ld (F.t 118 rfl) (cel_cell (o := 4) (H.cell 5 rfl) rfl) one29) fun a F => ?_
      refine ls (lbs F H (e := 29) (vs := [(0, .slice A52 x51.length c53)]) (cs := [.slice A52 x51.length c53]) rfl (fun w => by kernel_rfl) fun g112 w a H F => ?_)
      obtain ⟨c113, k_109⟩ := guardO k_109
      obtain ⟨A114, c115, _, hr, H⟩ := Hp.appendCelL (kd := (kSlice kByte)) (xs := x40) (ys := [x51]) (H.f9.f9.f9.f9.f9.f9.f9.f8.f8.f9) (F.t 117 rfl) (F.t 120 rfl) Try.underlying30 ti29 rfl (by decide) (by decide) rfl ((SayL.cons (kd := (kSlice kByte)) (c1 := [.slice A52 x51.length c53]) (y := x51) (fun Z hp => ⟨A52, c53, rfl, pat hp 1 rfl⟩) SayL.nil)) c113
      refine qw F (hr _ _ _ _ _) fun a F => ?_
      refine qw F (r_fa (off := 2) (F.t 12 rfl) fa32_2) fun a F => ?_
      refine sto F [.slice A114 ((x40 ++ ([x51]))).length c115] [.int .i64 x3, .slice A38 x37.length c39, .slice A114 ((x40 ++ ([x51]))).length c115, .slice A44 x43.length c45] H.f7.f7.f7.f7.f7.f7.f7.f7.f8 rfl rfl sz30 fun w a H F => ?_
      refine wpList_nil ?_
      replace F := F.only [6, 8, 9, 11, 12, 13] (l' := [(6, _), (8, _), (9, _), (11, _), (12, _), (13, _)]) rfl
      try dsimp only at k_109
      obtain rfl := Option.some.inj k_109
      exact ⟨_, _, rfl, A114, c115, A44, c45, F.only [6, 8, 9, 11, 12, 13] rfl, H.px1.f8.f8.f7.f7.f6.f7.f7.fx8⟩
     rw [if_neg c111] at k_109
     rw [decide_eq_false c111] at F
     refine wp_cond_false (F.ev rfl) ?_
     refine wp_region_lit ?_
     refine qw F (r_fa (off := 3) (F.t 12 rfl) fa32_3) fun a F => ?_
     refine qw F (r_ld (F.t 82 rfl) (cel_cell (o := 3) (H.cell 8 rfl) rfl) one30) fun a F => ?_
     refine qw F (r_fa (off := 4) (F.t 14 rfl) fa53_4) fun a F => ?_
     refine qw F (r_ld (F.t 84 rfl) (cel_cell (o := 4) (H.cell 5 rfl) rfl) one29) fun a F => ?_
     refine ls (lbs F H (e := 29) (vs := [(0, .slice A52 x51.length c53)]) (cs := [.slice A52 x51.length c53]) rfl (fun w => by kernel_rfl) fun g116 w a H F => ?_)
     obtain ⟨c117, k_109⟩ := guardO k_109
     obtain ⟨A118, c119, _, hr, H⟩ := Hp.appendCelL (kd := (kSlice kByte)) (xs := x43) (ys := [x51]) (H.f9.f9.f9.f9.f9.f9.f8.f8.f8.f9) (F.t 83 rfl) (F.t 86 rfl) Try.underlying30 ti29 rfl (by decide) (by decide) rfl ((SayL.cons (kd := (kSlice kByte)) (c1 := [.slice A52 x51.length c53]) (y := x51) (fun Z hp => ⟨A52, c53, rfl, pat hp 1 rfl⟩) SayL.nil)) c117
     refine qw F (hr _ _ _ _ _) fun a F => ?_
     refine qw F (r_fa (off := 3) (F.t 12 rfl) fa32_3) fun a F => ?_
     refine sto F [.slice A118 ((x43 ++ ([x51]))).length c119] [.int .i64 x3, .slice A38 x37.length c39, .slice A41 x40.length c42, .slice A118 ((x43 ++ ([x51]))).length c119] H.f7.f7.f7.f7.f7.f7.f7.f7.f8 rfl rfl sz30 fun w a H F => ?_
     refine wpList_nil ?_
     replace F := F.only [6, 8, 9, 11, 12, 13] (l' := [(6, _), (8, _), (9, _), (11, _), (12, _), (13, _)]) rfl
     try dsimp only at k_109
     obtain rfl := Option.some.inj k_109
     exact ⟨_, _, rfl, A41, c42, A118, c119, F.only [6, 8, 9, 11, 12, 13] rfl, H.px1.f8.f8.f7.f7.f6.f6.f7.fx8⟩
    rintro a w ⟨x104, x107, rfl, A105, c106, A108, c109, F, H⟩
    try dsimp only at k_98 F H
    try dsimp only at k_98
    obtain rfl := Option.some.inj k_98
    exact ⟨_, _, _, rfl, A38, c39, A105, c106, A108, c109, F.only [6, 8, 9, 11, 12, 13] rfl, H.f7.f7.f7.f7.f7.f6.f6.f7⟩
   rintro a w ⟨x90, x93, x96, rfl, A91, c92, A94, c95, A97, c98, F, H⟩
   try dsimp only at j_45 F H
   refine wp_goto ?_
   try dsimp only at j_45
   obtain rfl := Option.some.inj j_45
   exact ⟨rfl, _, rfl, A91, c92, A94, c95, A97, c98, F.only [6, 8, 9, 11, 12, 13] rfl, H⟩
  rw [if_neg c77] at j_45
  rw [Bool.eq_false_iff.2 c77] at F
  iterate 4 refine of_ F fun a F => ?_
  refine qw F (r_pickT (F.t 48 rfl) (F.k (.bool true))) fun a F => ?_
  refine mv F rfl fun a F => ?_
  iterate 5 refine of_ F fun a F => ?_
  refine qw F (r_pickT (F.t 54 rfl) (F.k (.bool true))) fun a F => ?_
  refine mv F rfl fun a F => ?_
  iterate 5 refine of_ F fun a F => ?_
  refine qw F (r_pickT (F.t 61 rfl) (F.k (.bool true))) fun a F => ?_
  refine mv F rfl fun a F => ?_
  iterate 5 refine of_ F fun a F => ?_
  refine qw F (r_pickT (F.t 68 rfl) (F.k (.bool true))) fun a F => ?_
  refine rgend ?_
  replace F := F.only [74, 14, 6, 8, 9, 11, 12, 13] (l' := [(74, _), (14, _), (6, _), (8, _), (9, _), (11, _), (12, _), (13, _)]) rfl
  refine wp_cond_true (F.ev rfl) ?_
  refine wp_seq ?_
  refine rg ?_
  iterate 2 refine mv F rfl fun a F => ?_
  refine qw F (r_lt (F.t 75 rfl) (F.t 76 rfl)) fun a F => ?_
  refine rgend ?_
  replace F := F.only [77, 6, 12] (l' := [(77, _), (6, _), (12, _)]) rfl
  by_cases c120 : x36 < (IntKind.i64.wrap (x5 + x6))
  ·rw [if_pos c120] at j_45
   rw [decide_eq_true c120] at F
   refine wp_cond_true (F.ev rfl) ?_
   refine rg ?_
   refine ls (lbd F (vs := []) (cs := [.int .i64 0, .slice none 0 0, .slice none 0 0, .slice none 0 0]) rfl (fun w => by kernel_rfl) fun a F => ?_)
   refine stF F [.int .i64 0, .slice none 0 0, .slice none 0 0, .slice none 0 0] H.f8.f7.f7.f7.f7.f7.f7.f7.f8 rfl rfl sz32 fun w a H F => ?_
   refine as_ F (v := .bool false) rfl fun a F => ?_
   refine rgend ?_
   refine wp_ret ?_
   replace H := H.nilRd kByte
   replace H := H.nilRd (kSlice kByte)
   replace H := H.nilOwn (kSlice kByte) 29
   try dsimp only at j_45
   obtain rfl := Option.some.inj j_45
   obtain rfl := u_45 _ rfl
   try dsimp only at h
   obtain ⟨rfl, rfl⟩ := Prod.mk.inj (Option.some.inj h)
   exact RET _ _ (retC2 F rfl rfl rfl (ldvA (cel_range (o := 0) (n := 4) (vs := [.int .i64 0, .slice none 0 0, .slice none 0 0, .slice none 0 0]) (H.cell 1 rfl) rfl) agg32 rfl) ⟨_, rfl, none, 0, none, 0, none, 0, rfl, H.p0.p2.px2.px2.px2.px2.fx9.fx7.fx6.fx5.fx4.fx3.fx2.fx1⟩)
  rw [if_neg c120] at j_45
  rw [decide_eq_false c120] at F
  refine wp_cond_false (F.ev rfl) ?_
  refine wp_skip ?_
  refine rg ?_
  refine qw F (r_ldA (F.t 12 rfl) (cel_range (o := 0) (n := 4) (vs := [.int .i64 x3, .slice A38 x37.length c39, .slice A41 x40.length c42, .slice A44 x43.length c45]) (H.cell 8 rfl) rfl) agg32 rfl) fun a F => ?_
  refine stF F [.int .i64 x3, .slice A38 x37.length c39, .slice A41 x40.length c42, .slice A44 x43.length c45] H.f8.f7.f7.f7.f7.f7.f7.f7.f8 rfl rfl sz32 fun w a H F => ?_
  refine as_ F (v := .bool true) rfl fun a F => ?_
  refine rgend ?_
  refine wp_ret ?_
  replace H := (H.f8.f8.f8.f8.f8.f8.f7.f7.f8).freeze
  replace H := (H.f7.f7.f7.f7.f7.f6.f6.f7).freeze
  try dsimp only at j_45
  obtain rfl := Option.some.inj j_45
  obtain rfl := u_45 _ rfl
  try dsimp only at h
  obtain ⟨rfl, rfl⟩ := Prod.mk.inj (Option.some.inj h)
  exact RET _ _ (retC2 F rfl rfl rfl (ldvA (cel_range (o := 0) (n := 4) (vs := [.int .i64 x3, .slice A38 x37.length c39, .slice A41 x40.length c42, .slice A44 x43.length c45]) (H.cell 0 rfl) rfl) agg32 rfl) ⟨_, rfl, A38, c39, A41, c42, A44, c45, rfl, H.p0.p2.px2.px2.px2.px2.fx6.fx4.fx3.fx1.fx0⟩)
 rw [if_neg c33] at h
 rw [Bool.eq_false_iff.2 c33] at F
 iterate 3 refine of_ F fun a F => ?_
 refine qw F (r_pickT (F.t 31 rfl) (F.k (.bool true))) fun a F => ?_
 refine rgend ?_
 replace F := F.only [35, 11, 9, 8, 6] (l' := [(35, _), (11, _), (9, _), (8, _), (6, _)]) rfl
 refine wp_cond_true (F.ev rfl) ?_
 refine rg ?_
 refine ls (lbd F (vs := []) (cs := [.int .i64 0, .slice none 0 0, .slice none 0 0, .slice none 0 0]) rfl (fun w => by kernel_rfl) fun a F => ?_)
 refine stF F [.int .i64 0, .slice none 0 0, .slice none 0 0, .slice none 0 0] H.f2.f2.f2.f3 rfl rfl sz32 fun w a H F => ?_
 refine as_ F (v := .bool false) rfl fun a F => ?_
 refine rgend ?_
 replace F := F.only [7, 6] (l' := [(7, _), (6, _)]) rfl
 refine wp_ret ?_
 replace H := H.nilRd kByte
 replace H := H.nilRd (kSlice kByte)
 replace H := H.nilOwn (kSlice kByte) 29
 try dsimp only at h
 obtain ⟨rfl, rfl⟩ := Prod.mk.inj (Option.some.inj h)
 exact RET _ _ (retC2 F rfl rfl rfl (ldvA (cel_range (o := 0) (n := 4) (vs := [.int .i64 0, .slice none 0 0, .slice none 0 0, .slice none 0 0]) (H.cell 1 rfl) rfl) agg32 rfl) ⟨_, rfl, none, 0, none, 0, none, 0, rfl, H.p0.p2.px2.px2.px2.fx3.fx2.fx1⟩)
def region_Greatest_b0 (a0 : disk_Disk) (a1 : Int) (a2 : Int) (x2 : Int) : (Int × Int) → Option (Int × Int ⊕ Int)
 | (x4, x5) => (if x5 < (max (min a2 x2) 0) then (((((if x5 ≥ a2 then some true else (if a1 < 0 then some true else ((disk_Disk_Sectors_f a0).bind fun x24 => some ((decide (x5 ≥ (IntKind.i64.wrap (x24 - a1)))))))) : Option (Bool)).bind fun x20 => (if x20 = true then some (0, 0, 0, 0, [], false) else ((disk_Disk_Read_f a0 (IntKind.i64.wrap (a1 + x5))).bind fun (x27, x28) => (if x28 ≠ 0 then some (0, 0, 0, 0, [], false) else ((sector_Get_f x27).bind fun (x33, x34) => some (x33.Gen, x33.Place, x33.Parts, x33.Kept, x33.Body, x34)))))) : Option (Int × Int × Int × Int × (List Int) × Bool)).bind fun (x9, x10, x11, x12, x13, x16) => (((if x16 = true then some ((max x4 x9)) else some x4) : Option (Int)).bind fun x39 => some (.inl (x39, IntKind.i64.wrap (x5 + 1))))) else some (.inr x4))
def region_Greatest_f (a0 : disk_Disk) (a1 : Int) (a2 : Int) : Option (Int) :=
 ((disk_Disk_Sectors_f a0).bind fun x2 => ((lp (region_Greatest_b0 a0 a1 a2 x2) (0, 0)).bind fun x6 => some x6))
theorem region_Greatest_ok {w0 w : World} {ps : List PF} {fs : List SF} {a0 : disk_Disk} {g0_ : Nat} {a1 : Int} {a2 : Int} {r0 : Int} (H : Hp w0 ps (obj_disk_Disk g0_ a0 :: fs) w) (h : region_Greatest_f a0 a1 a2 = some r0) :
  Calls Try.prog 42 [pt g0_, .int .i64 a1, .int .i64 a2].toArray w fun e w' => ∃ v, e = .returned v ∧ v = .int .i64 r0 ∧ Hp w0 ps (obj_disk_Disk g0_ a0 :: fs) w' := by
 refine enter [pt g0_, .int .i64 a1, .int .i64 a2] 37 Try.func42 fun Q a NP RET NRM F => ?_
 replace NP := np NP
 unfold region_Greatest_f at h
 refine rg ?_
 refine as_ F (v := .int .i64 0) rfl fun a F => ?_
 refine rgend ?_
 refine rg ?_
 iterate 3 refine mv F rfl fun a F => ?_
 refine ls (lbd F (vs := [(0, pt g0_), (1, .int .i64 a1), (2, .int .i64 a2)]) (cs := [pt g0_, .int .i64 a1, .int .i64 a2]) rfl (fun w => by kernel_rfl) fun a F => ?_)
 refine ls (lal F H ti105 (cs := [.pointer none, .int .i64 0, .int .i64 0]) rfl fun g1 w a H F => ?_)
 refine stF F [.pointer (some ⟨g0_, 0, none⟩), .int .i64 a1, .int .i64 a2] H rfl rfl sz105 fun w a H F => ?_
 refine rgend ?_
 replace F := F.only [7, 0, 2] (l' := [(7, _), (0, _), (2, _)]) rfl
 refine rg ?_
 refine as_ F (v := .int .i64 0) rfl fun a F => ?_
 refine rgend ?_
 refine wp_seq ?_
 refine rg ?_
 iterate 2 refine mv F rfl fun a F => ?_
 obtain ⟨x2, e3, h⟩ := Option.bind_eq_some_iff.1 h
 try dsimp only at h
 refine ls (call F Try.func76 (disk_Disk_Sectors_ok (H.f1) e3) rfl rfl fun v w hR a F => ?_)
 obtain ⟨rfl, H⟩ := hR
 refine qw F (r_min (F.t 16 rfl) (F.t 18 rfl)) fun a F => ?_
 refine qw F (r_max (F.t 19 rfl) (F.k (.int .i64 0))) fun a F => ?_
 refine mv F (v := .int .i64 0) rfl fun a F => ?_
 refine rgend ?_
 replace F := F.only [21, 20, 8, 7] (l' := [(21, _), (20, _), (8, _), (7, _)]) rfl
 obtain ⟨o_6, k_6, h⟩ := Option.bind_eq_some_iff.1 h
 refine cut (fun a w => ∃ (x6 : Int), x6 = o_6 ∧ Fr 37 [] [(8, .int .i64 x6)] a ∧ Hp w0 ps (obj_disk_Disk g0_ a0 :: fs) w) (wp_block ?_) ?_
 ·refine wloop (region_Greatest_b0 a0 a1 a2 x2) (fun (s : Int × Int) a w => Fr 37 [] [(7, pt g1), (8, .int .i64 s.1), (20, .int .i64 (max (min a2 x2) 0)), (21, .int .i64 s.2)] a ∧ Hp w0 ps (obj_disk_Disk g0_ a0 :: cel g1 [pt g0_, .int .i64 a1, .int .i64 a2] 105 :: fs) w) k_6 ⟨F.only [7, 8, 20, 21] rfl, H⟩ ?_
  rintro ⟨x4, x5⟩ a w q_6 j_6 u_6 ⟨F, H⟩
  unfold region_Greatest_b0 at j_6
  try dsimp only at j_6 F H
  refine rg ?_
  refine qw F (r_lt (F.t 21 rfl) (F.t 20 rfl)) fun a F => ?_
  refine rgend ?_
  refine wp_seq ?_
  by_cases c8 : x5 < (max (min a2 x2) 0)
  ·rw [if_pos c8] at j_6
   rw [decide_eq_true c8] at F
   refine wp_cond_true (F.ev rfl) ?_
   refine wp_skip ?_
   refine wp_seq ?_
   refine wp_block ?_
   refine rg ?_
   refine mv F rfl fun a F => ?_
   refine as_ F rfl fun a F => ?_
   refine rgend ?_
   refine rg ?_
   refine qw F (r_ldA (F.t 7 rfl) (cel_range (o := 0) (n := 3) (vs := [pt g0_, .int .i64 a1, .int .i64 a2]) (H.cell 1 rfl) rfl) agg105 rfl) fun a F => ?_
   refine mv F rfl fun a F => ?_
   obtain ⟨o_16, k_16, j_6⟩ := Option.bind_eq_some_iff.1 j_6
   refine ls (call F Try.func77 (R := fun v w => ∃ (x9 : Int) (x10 : Int) (x11 : Int) (x12 : Int) (x13 : List Int) (x16 : Bool), (x9, x10, x11, x12, x13, x16) = o_16 ∧ ∃ (A14 : Option Addr) (c15 : Nat), v = .tuple #[.agg #[.int .i64 x9, .int .i64 x10, .int .i64 x11, .int .i64 x12, .slice A14 x13.length c15], .bool x16] ∧ Hp w0 (rd kByte A14 c15 x13 :: ps) (obj_disk_Disk g0_ a0 :: cel g1 [pt g0_, .int .i64 a1, .int .i64 a2] 105 :: fs) w) (args := [.agg #[pt g0_, .int .i64 a1, .int .i64 a2], .int .i64 x5]) (cap := []) ?_ rfl rfl ?_)
   ·refine enter [.agg #[pt g0_, .int .i64 a1, .int .i64 a2], .int .i64 x5] 45 Try.func77 fun Q a NP RET NRM F => ?_
    replace NP := np NP
    refine rg ?_
    refine ls (lbox F H rfl (cs := [pt g0_, .int .i64 a1, .int .i64 a2]) rfl fun g18 w a H F => ?_)
    refine ls (lal F H ti53 (cs := [.int .i64 0, .int .i64 0, .int .i64 0, .int .i64 0, .slice none 0 0]) rfl fun g19 w a H F => ?_)
    refine as_ F (v := .bool false) rfl fun a F => ?_
    refine rgend ?_
    iterate 2 refine wp_seq ?_
    obtain ⟨o_20, k_20, k_16⟩ := Option.bind_eq_some_iff.1 k_16
    refine cut (fun a w => ∃ (x20 : Bool), x20 = o_20 ∧ Fr 45 [] [(1, .int .i64 x5), (2, pt g18), (4, pt g19), (26, .bool x20)] a ∧ Hp w0 ps (obj_disk_Disk g0_ a0 :: cel g19 [.int .i64 0, .int .i64 0, .int .i64 0, .int .i64 0, .slice none 0 0] 53 :: cel g1 [pt g0_, .int .i64 a1, .int .i64 a2] 105 :: cel g18 [pt g0_, .int .i64 a1, .int .i64 a2] 105 :: fs) w) ?_ ?_
    ·skip
     replace H := H.drew
     have HS := H.fx2
     refine dr (fun w => Hp w0 ps (cel g19 [.int .i64 0, .int .i64 0, .int .i64 0, .int .i64 0, .slice none 0 0] 53 :: cel g18 [pt g0_, .int .i64 a1, .int .i64 a2] 105 :: cel g1 [pt g0_, .int .i64 a1, .int .i64 a2] 105 :: fs) w) _ (by kernel_rfl) ?_ (n := 19)
     refine dk 0 F rfl NP HS (fun w S => (r_mv (F.t 1 rfl))) fun a F => ?_
     refine dk 1 F rfl NP HS (fun w S => (r_fa (off := 2) (F.t 2 rfl) fa105_2)) fun a F => ?_
     refine dk 2 F rfl NP HS (fun w S => (r_ld (F.t 9 rfl) (cel_cell (o := 2) (S.cell 1 rfl) rfl) one3)) fun a F => ?_
     refine dk 3 F rfl NP HS (fun w S => (r_ge (F.t 8 rfl) (F.t 10 rfl))) fun a F => ?_
     refine dk 4 F rfl NP HS (fun w S => (r_mv (F.t 11 rfl))) fun a F => ?_
     by_cases c22 : x5 ≥ a2
     ·rw [if_pos c22] at k_20
      rw [decide_eq_true c22] at F
      refine df 5 F rfl NP HS fun a F => ?_
      refine df 6 F rfl NP HS fun a F => ?_
      refine df 7 F rfl NP HS fun a F => ?_
      refine dk 8 F rfl NP HS (fun w S => (r_pickT (F.t 12 rfl) (F.k (.bool true)))) fun a F => ?_
      refine dk 9 F rfl NP HS (fun w S => (r_mv (F.t 16 rfl))) fun a F => ?_
      refine df 10 F rfl NP HS fun a F => ?_
      refine df 11 F rfl NP HS fun a F => ?_
      refine df 12 F rfl NP HS fun a F => ?_
      refine df 13 F rfl NP HS fun a F => ?_
      refine df 14 F rfl NP HS fun a F => ?_
      refine df 15 F rfl NP HS fun a F => ?_
      refine df 16 F rfl NP HS fun a F => ?_
      refine df 17 F rfl NP HS fun a F => ?_
      refine dk 18 F rfl NP HS (fun w S => (r_pickT (F.t 17 rfl) (F.k (.bool true)))) fun a F => ?_
      refine ddone (by kernel_rfl) ?_
      replace F := F.only [26, 4, 2, 1] (l' := [(26, _), (4, _), (2, _), (1, _)]) rfl
      try dsimp only at k_20
      obtain rfl := Option.some.inj k_20
      exact ⟨_, rfl, F.only [1, 2, 4, 26] rfl, H.f1.f3.f2.f3⟩
     rw [if_neg c22] at k_20
     rw [decide_eq_false c22] at F
     refine dk 5 F rfl NP HS (fun w S => (r_fa (off := 1) (F.t 2 rfl) fa105_1)) fun a F => ?_
     refine dk 6 F rfl NP HS (fun w S => (r_ld (F.t 13 rfl) (cel_cell (o := 1) (S.cell 1 rfl) rfl) one3)) fun a F => ?_
     refine dk 7 F rfl NP HS (fun w S => (r_lt (F.t 14 rfl) (F.k (.int .i64 0)))) fun a F => ?_
     refine dk 8 F rfl NP HS (fun w S => (r_pickF (F.t 12 rfl) (F.t 15 rfl))) fun a F => ?_
     refine dk 9 F rfl NP HS (fun w S => (r_mv (F.t 16 rfl))) fun a F => ?_
     by_cases c23 : a1 < 0
     ·rw [if_pos c23] at k_20
      rw [decide_eq_true c23] at F
      refine df 10 F rfl NP HS fun a F => ?_
      refine df 11 F rfl NP HS fun a F => ?_
      refine df 12 F rfl NP HS fun a F => ?_
      refine df 13 F rfl NP HS fun a F => ?_
      refine df 14 F rfl NP HS fun a F => ?_
      refine df 15 F rfl NP HS fun a F => ?_
      refine df 16 F rfl NP HS fun a F => ?_
      refine df 17 F rfl NP HS fun a F => ?_
      refine dk 18 F rfl NP HS (fun w S => (r_pickT (F.t 17 rfl) (F.k (.bool true)))) fun a F => ?_
      refine ddone (by kernel_rfl) ?_
      replace F := F.only [26, 4, 2, 1] (l' := [(26, _), (4, _), (2, _), (1, _)]) rfl
      try dsimp only at k_20
      obtain rfl := Option.some.inj k_20
      exact ⟨_, rfl, F.only [1, 2, 4, 26] rfl, H.f1.f3.f2.f3⟩
     rw [if_neg c23] at k_20
     rw [decide_eq_false c23] at F
     refine dk 10 F rfl NP HS (fun w S => (r_mv (F.t 1 rfl))) fun a F => ?_
     refine dk 11 F rfl NP HS (fun w S => (r_fa (off := 0) (F.t 2 rfl) fa105_0)) fun a F => ?_
     refine dk 12 F rfl NP HS (fun w S => (r_ld (F.t 19 rfl) (cel_cell (o := 0) (S.cell 1 rfl) rfl) one24)) fun a F => ?_
     refine dk 14 F rfl NP HS (fun w S => (r_fa (off := 1) (F.t 2 rfl) fa105_1)) fun a F => ?_
     refine dk 15 F rfl NP HS (fun w S => (r_ld (F.t 22 rfl) (cel_cell (o := 1) (S.cell 1 rfl) rfl) one3)) fun a F => ?_
     obtain ⟨x24, e25, k_20⟩ := Option.bind_eq_some_iff.1 k_20
     try dsimp only at k_20
     refine d1 13 rfl (by kernel_rfl) (call F Try.func76 (disk_Disk_Sectors_ok (H.f3.f2.f2.f3) e25) rfl rfl fun v w hR a F => ?_)
     obtain ⟨rfl, H⟩ := hR
     have HS := H.fx0
     refine kg _ HS (fun w S => S) ?_
     refine dk 16 F rfl NP HS (fun w S => (r_sub (F.t 21 rfl) (F.t 23 rfl))) fun a F => ?_
     refine dk 17 F rfl NP HS (fun w S => (r_ge (F.t 18 rfl) (F.t 24 rfl))) fun a F => ?_
     refine dk 18 F rfl NP HS (fun w S => (r_pickF (F.t 17 rfl) (F.t 25 rfl))) fun a F => ?_
     refine ddone (by kernel_rfl) ?_
     replace F := F.only [26, 4, 2, 1] (l' := [(26, _), (4, _), (2, _), (1, _)]) rfl
     try dsimp only at k_20
     obtain rfl := Option.some.inj k_20
     exact ⟨_, rfl, F.only [1, 2, 4, 26] rfl, H.f2.f3.f3.f3⟩
    rintro a w ⟨x20, rfl, F, H⟩
    try dsimp only at k_16 F H
    by_cases c26 : x20 = true
    ·rw [if_pos c26] at k_16
     rw [c26] at F
     refine wp_cond_true (F.ev rfl) ?_
     refine rg ?_
     refine ls (lbd F (vs := []) (cs := [.int .i64 0, .int .i64 0, .int .i64 0, .int .i64 0, .slice none 0 0]) rfl (fun w => by kernel_rfl) fun a F => ?_)
     refine stF F [.int .i64 0, .int .i64 0, .int .i64 0, .int .i64 0, .slice none 0 0] H.f3.f3.f2.f3 rfl rfl sz53 fun w a H F => ?_
     refine as_ F (v := .bool false) rfl fun a F => ?_
     refine rgend ?_
     replace F := F.only [5, 4] (l' := [(5, _), (4, _)]) rfl
     refine wp_ret ?_
     replace H := H.nilRd kByte
     try dsimp only at k_16
     obtain rfl := Option.some.inj k_16
     exact RET _ _ (retC2 F rfl rfl rfl (ldvA (cel_range (o := 0) (n := 5) (vs := [.int .i64 0, .int .i64 0, .int .i64 0, .int .i64 0, .slice none 0 0]) (H.cell 0 rfl) rfl) agg53 rfl) ⟨_, rfl, _, _, _, _, _, _, rfl, none, 0, rfl, H.fx3.fx0⟩)
    rw [if_neg c26] at k_16
    rw [Bool.eq_false_iff.2 c26] at F
    refine wp_cond_false (F.ev rfl) ?_
    refine wp_skip ?_
    refine rg ?_
    refine qw F (r_fa (off := 0) (F.t 2 rfl) fa105_0) fun a F => ?_
    refine qw F (r_ld (F.t 29 rfl) (cel_cell (o := 0) (H.cell 3 rfl) rfl) one24) fun a F => ?_
    refine qw F (r_fa (off := 1) (F.t 2 rfl) fa105_1) fun a F => ?_
    refine qw F (r_ld (F.t 31 rfl) (cel_cell (o := 1) (H.cell 3 rfl) rfl) one3) fun a F => ?_
    refine mv F rfl fun a F => ?_
    refine qw F (r_add (F.t 32 rfl) (F.t 33 rfl)) fun a F => ?_
    obtain ⟨⟨x27, x28⟩, e29, k_16⟩ := Option.bind_eq_some_iff.1 k_16
    try dsimp only at k_16
    refine ls (call F Try.func64 (disk_Disk_Read_ok (H) e29) rfl rfl fun v w hR a F => ?_)
    obtain ⟨A30, c31, rfl, H⟩ := hR
    refine mv F rfl fun a F => ?_
    iterate 2 refine qw F (r_ex (F.t 28 rfl) rfl) fun a F => ?_
    iterate 2 refine as_ F rfl fun a F => ?_
    refine rgend ?_
    replace F := F.only [7, 6, 4] (l' := [(7, _), (6, _), (4, _)]) rfl
    refine wp_seq ?_
    refine rg ?_
    refine mv F rfl fun a F => ?_
    refine qw F (r_ne (F.t 38 rfl) (F.k (.int .i64 0))) fun a F => ?_
    refine rgend ?_
    by_cases c32 : x28 ≠ 0
    ·rw [if_pos c32] at k_16
     rw [decide_eq_true c32] at F
     refine wp_cond_true (F.ev rfl) ?_
     refine rg ?_
     refine ls (lbd F (vs := []) (cs := [.int .i64 0, .int .i64 0, .int .i64 0, .int .i64 0, .slice none 0 0]) rfl (fun w => by kernel_rfl) fun a F => ?_)
     refine stF F [.int .i64 0, .int .i64 0, .int .i64 0, .int .i64 0, .slice none 0 0] H.f4.f4.f3.f3.f4 rfl rfl sz53 fun w a H F => ?_
     refine as_ F (v := .bool false) rfl fun a F => ?_
     refine rgend ?_
     replace F := F.only [5, 4] (l' := [(5, _), (4, _)]) rfl
     refine wp_ret ?_
     replace H := H.nilRd kByte
     try dsimp only at k_16
     obtain rfl := Option.some.inj k_16
     exact RET _ _ (retC2 F rfl rfl rfl (ldvA (cel_range (o := 0) (n := 5) (vs := [.int .i64 0, .int .i64 0, .int .i64 0, .int .i64 0, .slice none 0 0]) (H.cell 0 rfl) rfl) agg53 rfl) ⟨_, rfl, _, _, _, _, _, _, rfl, none, 0, rfl, H.fx4.fx1.fx0⟩)
    rw [if_neg c32] at k_16
    rw [decide_eq_false c32] at F
    refine wp_cond_false (F.ev rfl) ?_
    refine wp_skip ?_
    refine rg ?_
    refine mv F rfl fun a F => ?_
    replace H := (H).freeze
    obtain ⟨⟨x33, x34⟩, e35, k_16⟩ := Option.bind_eq_some_iff.1 k_16
    try dsimp only at k_16
    refine ls (call F Try.func92 (sector_Get_ok (H.p0) e35) rfl rfl fun v w hR a F => ?_)
    obtain ⟨A36, c37, rfl, H⟩ := hR
    iterate 2 refine qw F (r_ex (F.t 42 rfl) rfl) fun a F => ?_
    refine stF F [.int .i64 x33.Gen, .int .i64 x33.Place, .int .i64 x33.Parts, .int .i64 x33.Kept, .slice A36 x33.Body.length c37] H.f3.f3.f2.f3 rfl rfl sz53 fun w a H F => ?_
    refine as_ F rfl fun a F => ?_
    refine rgend ?_
    replace F := F.only [5, 4] (l' := [(5, _), (4, _)]) rfl
    refine wp_ret ?_
    try dsimp only at k_16
    obtain rfl := Option.some.inj k_16
    exact RET _ _ (retC2 F rfl rfl rfl (ldvA (cel_range (o := 0) (n := 5) (vs := [.int .i64 x33.Gen, .int .i64 x33.Place, .int .i64 x33.Parts, .int .i64 x33.Kept, .slice A36 x33.Body.length c37]) (H.cell 0 rfl) rfl) agg53 rfl) ⟨_, rfl, _, _, _, _, _, _, rfl, A36, c37, rfl, H.px1.fx3.fx0⟩)
   rintro v w ⟨x9, x10, x11, x12, x13, x16, rfl, A14, c15, rfl, H⟩ a F
   try dsimp only at j_6 F H
   refine mv F rfl fun a F => ?_
   iterate 2 refine qw F (r_ex (F.t 24 rfl) rfl) fun a F => ?_
   refine ls (lal F H ti53 (cs := [.int .i64 0, .int .i64 0, .int .i64 0, .int .i64 0, .slice none 0 0]) rfl fun g38 w a H F => ?_)
   refine stF F [.int .i64 x9, .int .i64 x10, .int .i64 x11, .int .i64 x12, .slice A14 x13.length c15] H rfl rfl sz53 fun w a H F => ?_
   refine as_ F rfl fun a F => ?_
   refine rgend ?_
   replace F := F.only [11, 10, 7, 8, 20, 21] (l' := [(11, _), (10, _), (7, _), (8, _), (20, _), (21, _)]) rfl
   refine rg ?_
   refine mv F rfl fun a F => ?_
   refine rgend ?_
   obtain ⟨o_39, k_39, j_6⟩ := Option.bind_eq_some_iff.1 j_6
   refine cut (fun a w => ∃ (x39 : Int), x39 = o_39 ∧ Fr 37 [] [(7, pt g1), (8, .int .i64 x39), (20, .int .i64 (max (min a2 x2) 0)), (21, .int .i64 x5)] a ∧ Hp w0 ps (obj_disk_Disk g0_ a0 :: cel g1 [pt g0_, .int .i64 a1, .int .i64 a2] 105 :: fs) w) ?_ ?_
   ·skip
    by_cases c41 : x16 = true
    ·rw [if_pos c41] at k_39
     rw [c41] at F
     refine wp_cond_true (F.ev rfl) ?_
     refine wp_region_lit ?_
     refine mv F rfl fun a F => ?_
     refine qw F (r_fa (off := 0) (F.t 10 rfl) fa53_0) fun a F => ?_
     refine qw F (r_ld (F.t 32 rfl) (cel_cell (o := 0) (H.cell 0 rfl) rfl) one2) fun a F => ?_
     refine qw F (r_max (F.t 31 rfl) (F.t 33 rfl)) fun a F => ?_
     refine as_ F rfl fun a F => ?_
     refine wpList_nil ?_
     replace F := F.only [8, 7, 20, 21] (l' := [(8, _), (7, _), (20, _), (21, _)]) rfl
     try dsimp only at k_39
     obtain rfl := Option.some.inj k_39
     exact ⟨_, rfl, F.only [7, 8, 20, 21] rfl, H.px0.fx0⟩
    rw [if_neg c41] at k_39
    rw [Bool.eq_false_iff.2 c41] at F
    refine wp_cond_false (F.ev rfl) ?_
    refine wp_skip ?_
    try dsimp only at k_39
    obtain rfl := Option.some.inj k_39
    exact ⟨_, rfl, F.only [7, 8, 20, 21] rfl, H.px0.fx0⟩
   rintro a w ⟨x39, rfl, F, H⟩
   try dsimp only at j_6 F H
   refine wp_region_lit ?_
   refine qw F (r_add (F.t 21 rfl) (F.k (.int .i64 1))) fun a F => ?_
   refine mv F rfl fun a F => ?_
   refine wpList_nil ?_
   try dsimp only at j_6
   obtain rfl := Option.some.inj j_6
   exact ⟨_, rfl, F.only [7, 8, 20, 21] rfl, H⟩
  rw [if_neg c8] at j_6
  rw [decide_eq_false c8] at F
  refine wp_cond_false (F.ev rfl) ?_
  refine wp_exit ?_
  try dsimp only at j_6
  obtain rfl := Option.some.inj j_6
  obtain rfl := u_6 _ rfl
  repeat (with_reducible refine exT ?_)
  with_reducible refine exB ?_
  exact ⟨_, rfl, F.only [8] rfl, H.fx1⟩
 rintro a w ⟨x6, rfl, F, H⟩
 try dsimp only at h F H
 refine rg ?_
 refine mv F rfl fun a F => ?_
 refine as_ F rfl fun a F => ?_
 refine rgend ?_
 refine wp_ret ?_
 try dsimp only at h
 obtain rfl := Option.some.inj h
 exact RET _ _ (ret1 F rfl rfl ⟨_, rfl, rfl, H⟩)
end Go.Proofs.Ytpmkpiffbdcflaa
