/- What the functions compute. Printed by wip/gen. -/
import Derived.Test.YtflkagoglhckoaaGL
set_option linter.unusedVariables false
set_option linter.unusedSimpArgs false
namespace Go.Proofs.Ytflkagoglhckoaa
open Go Go.RowKit
def law22_LanPlays_b0 (a0 : List law22_Op) : (Int × lan_Lan × ref22_Lan) → Option (Int × lan_Lan × ref22_Lan ⊕ ((lan_Lan × ref22_Lan) ⊕ Bool))
  | (x8, x9, x10) => (if x8 < (a0.length : Int) then (if 0 ≤ x8 ∧ x8 < (a0.length : Int) then ((if ((a0.getD (x8 : Int).toNat (⟨0, 0, 0, []⟩ : law22_Op)).What) = 2 then ((lan_Lan_Take_f x9 ((a0.getD (x8 : Int).toNat (⟨0, 0, 0, []⟩ : law22_Op)).To) ((a0.getD (x8 : Int).toNat (⟨0, 0, 0, []⟩ : law22_Op)).I)).bind fun (x35, x36, x37) => ((ref22_Lan_Take_f x10 ((a0.getD (x8 : Int).toNat (⟨0, 0, 0, []⟩ : law22_Op)).To) ((a0.getD (x8 : Int).toNat (⟨0, 0, 0, []⟩ : law22_Op)).I)).bind fun (x41, x42, x43) => some (x36, x42, x35, x41, true, x37, x43))) else ((if ((a0.getD (x8 : Int).toNat (⟨0, 0, 0, []⟩ : law22_Op)).What) = 3 then ((lan_Lan_Copy_f x9 ((a0.getD (x8 : Int).toNat (⟨0, 0, 0, []⟩ : law22_Op)).To) ((a0.getD (x8 : Int).toNat (⟨0, 0, 0, []⟩ : law22_Op)).I)).bind fun (x60, x61, x62) => ((ref22_Lan_Copy_f x10 ((a0.getD (x8 : Int).toNat (⟨0, 0, 0, []⟩ : law22_Op)).To) ((a0.getD (x8 : Int).toNat (⟨0, 0, 0, []⟩ : law22_Op)).I)).bind fun (x66, x67) => some (x61, x67, x60, x66, true, x62, x10))) else ((lan_Lan_Put_f x9 ((a0.getD (x8 : Int).toNat (⟨0, 0, 0, []⟩ : law22_Op)).To) ((a0.getD (x8 : Int).toNat (⟨0, 0, 0, []⟩ : law22_Op)).B)).bind fun (x71, x72) => ((ref22_Lan_Put_f x10 ((a0.getD (x8 : Int).toNat (⟨0, 0, 0, []⟩ : law22_Op)).To) ((a0.getD (x8 : Int).toNat (⟨0, 0, 0, []⟩ : law22_Op)).B)).bind fun (x74, x75) => some (x71, x74, [], [], false, x72, x75)))).bind fun (x47, x48, x49, x52, x55, x56, x57) => some (x47, x48, x49, x52, false, x56, x57))).bind fun (x22, x23, x24, x27, x30, x31, x32) => (if (x22 != x23) = true then some (.inr (.inr false)) else (if x24 ≠ x27 then some (.inr (.inr false)) else ((lan_Lan_Many_f x31 0).bind fun x81 => ((ref22_Lan_Many_f x32 0).bind fun x83 => (if x81 ≠ x83 then some (.inr (.inr false)) else ((lan_Lan_Many_f x31 1).bind fun x86 => ((ref22_Lan_Many_f x32 1).bind fun x88 => (if x86 ≠ x88 then some (.inr (.inr false)) else ((lan_Lan_Many_f x31 ((a0.getD (x8 : Int).toNat (⟨0, 0, 0, []⟩ : law22_Op)).To)).bind fun x91 => ((ref22_Lan_Many_f x32 ((a0.getD (x8 : Int).toNat (⟨0, 0, 0, []⟩ : law22_Op)).To)).bind fun x93 => (if x91 ≠ x93 then some (.inr (.inr false)) else some (.inl (IntKind.i64.wrap (x8 + 1), x31, x32)))))))))))))) else none) else some (.inr (.inl (x9, x10))))
def law22_LanPlays_f (a0 : List law22_Op) : Option (Bool) :=
  ((law22_head_f).bind fun x1 => ((law22_great_f a0).bind fun x3 => (if x3 = true then some x1 else ((lp (law22_LanPlays_b0 a0) (0, (⟨(⟨[]⟩, ⟨[]⟩)⟩ : lan_Lan), (⟨[], []⟩ : ref22_Lan))).bind fun q => match q with | .inl (x11, x12) => some x1 | .inr r => some r))))
set_option maxHeartbeats 4000000 in
set_option maxRecDepth 20000 in
theorem law22_LanPlays_ok {w0 w : World} {ps : List PF} {fs : List SF} {a0 : List law22_Op} {A0_ : Option Addr} {c0_ : Nat} {r0 : Bool} (H : Hp w0 (rd k_law22_Op A0_ c0_ a0 :: ps) fs w) (h : law22_LanPlays_f a0 = some r0) :
    Calls Try.prog 3 [.slice A0_ a0.length c0_].toArray w fun e w' => ∃ v, e = .returned v ∧ v = .bool r0 ∧ Hp w0 ps fs w' := by
  refine enter [.slice A0_ a0.length c0_] 120 Try.func3 fun Q a NP RET NRM F => ?_
  replace NP : ∀ c a w, ¬ Q (.panic c) a w := fun c a w h => by rcases NP c a w h with h | ⟨w, v, h, _⟩ <;> cases h
  unfold law22_LanPlays_f at h
  refine rg ?_
  refine as_ F (v := .bool false) rfl fun a F => ?_
  refine rgend ?_
  refine rg ?_
  obtain ⟨x1, e2, h⟩ := Option.bind_eq_some_iff.1 h
  try dsimp only at h
  refine ls (call F Try.func8 (law22_head_ok (H) e2) rfl rfl fun v w hR a F => ?_)
  obtain ⟨rfl, H⟩ := hR
  refine as_ F rfl fun a F => ?_
  refine rgend ?_
  refine wp_seq ?_
  refine rg ?_
  refine mv F rfl fun a F => ?_
  obtain ⟨x3, e4, h⟩ := Option.bind_eq_some_iff.1 h
  try dsimp only at h
  refine ls (call F Try.func9 (law22_great_ok (H.p0) e4) rfl rfl fun v w hR a F => ?_)
  obtain ⟨rfl, H⟩ := hR
  refine rgend ?_
  by_cases c5 : x3 = true
  · rw [if_pos c5] at h
    rw [c5] at F
    refine wp_cond_true (F.ev rfl) ?_
    refine rg ?_
    refine mv F rfl fun a F => ?_
    refine as_ F rfl fun a F => ?_
    refine rgend ?_
    replace F := F.only [2, 3, 0] (l' := [(2, .bool x1), (3, .bool x1), (0, .slice A0_ a0.length c0_)]) rfl
    refine wp_ret ?_
    try dsimp only at h
    cases h
    exact RET _ _ (ret1 F rfl rfl ⟨_, rfl, rfl, H.px0⟩)
  · rw [if_neg c5] at h
    rw [Bool.eq_false_iff.2 c5] at F
    refine wp_cond_false (F.ev rfl) ?_
    refine wp_skip ?_
    refine rg ?_
    refine ls (lbd F (vs := []) (cs := [.slice none 0 0, .slice none 0 0]) rfl (fun w => by kernel_rfl) fun a F => ?_)
    refine ls (lbox F H rfl (cs := [.slice none 0 0, .slice none 0 0]) rfl fun g6 w a H F => ?_)
    refine as_ F rfl fun a F => ?_
    refine rgend ?_
    replace F := F.only [4, 3, 2, 0] (l' := [(4, .pointer (some ⟨g6, 0, none⟩)), (3, .bool x1), (2, .bool false), (0, .slice A0_ a0.length c0_)]) rfl
    refine rg ?_
    refine ls (lbd F (vs := []) (cs := [.slice none 0 0, .slice none 0 0]) rfl (fun w => by kernel_rfl) fun a F => ?_)
    refine ls (lbox F H rfl (cs := [.slice none 0 0, .slice none 0 0]) rfl fun g7 w a H F => ?_)
    refine as_ F rfl fun a F => ?_
    refine rgend ?_
    refine wp_seq ?_
    refine rg ?_
    refine as_ F (v := .int .i64 0) rfl fun a F => ?_
    refine rgend ?_
    replace H := H.nilOwn (kSlice kByte) 35
    replace H := H.nilOwn (kSlice kByte) 35
    replace H := Hp.closeO_ref22_Lan (x := (⟨[], []⟩ : ref22_Lan)) (H.f3.f2.f2.f3)
    replace H := H.nilOwn (kSlice kByte) 35
    replace H := H.nilOwn (kSlice kByte) 35
    replace H := Hp.closeO_lan_Lan (x := (⟨(⟨[]⟩, ⟨[]⟩)⟩ : lan_Lan)) (H.f2.f2.f2.f3)
    obtain ⟨o_12, k_12, h⟩ := Option.bind_eq_some_iff.1 h
    refine cut (fun a w => ∃ (x11 : lan_Lan) (x12 : ref22_Lan), Sum.inl (x11, x12) = o_12 ∧ Fr 120 [] [(2, .bool false), (3, .bool x1)] a ∧ Hp w0 ps (obj_lan_Lan g6 x11 :: obj_ref22_Lan g7 x12 :: fs) w) (wp_block ?_) ?_
    · refine wloop (law22_LanPlays_b0 a0) (fun (s : Int × lan_Lan × ref22_Lan) a w => Fr 120 [] [(0, .slice A0_ a0.length c0_), (2, .bool false), (3, .bool x1), (4, .pointer (some ⟨g6, 0, none⟩)), (5, .pointer (some ⟨g7, 0, none⟩)), (6, .int .i64 s.1)] a ∧ Hp w0 (rd k_law22_Op A0_ c0_ a0 :: ps) (obj_lan_Lan g6 s.2.1 :: obj_ref22_Lan g7 s.2.2 :: fs) w) k_12 ⟨F.only [0, 2, 3, 4, 5, 6] rfl, H⟩ ?_
      rintro ⟨x8, x9, x10⟩ a w q_12 j_12 u_12 ⟨F, H⟩
      unfold law22_LanPlays_b0 at j_12
      try dsimp only at j_12 F H
      refine wp_seq ?_
      refine rg ?_
      refine mv F rfl fun a F => ?_
      refine mv F rfl fun a F => ?_
      refine ls (qv F (r_len (F.ev (x := .tmp 21) rfl) Try.underlying22) fun a F => ?_)
      refine ls (qv F (r_lt (F.ev (x := .tmp 20) rfl) (F.ev (x := .tmp 22) rfl)) fun a F => ?_)
      refine rgend ?_
      by_cases c14 : x8 < (a0.length : Int)
      · rw [if_pos c14] at j_12
        rw [decide_eq_true c14] at F
        refine wp_cond_true (F.ev rfl) ?_
        refine wp_skip ?_
        refine wp_seq ?_
        refine wp_block ?_
        refine rg ?_
        refine mv F rfl fun a F => ?_
        refine mv F rfl fun a F => ?_
        obtain ⟨c15, j_12⟩ := guardO j_12
        obtain ⟨g16, o17, s18, hr, H⟩ := H.ix (⟨0, 0, 0, []⟩ : law22_Op) 0 rfl (F.ev (x := .tmp 26) rfl) (F.ev (x := .tmp 27) rfl) Try.underlying22 sz37 (by decide) c15.1 c15.2
        obtain ⟨A19, c20, rfl, H⟩ := H.open_law22_Op 1 rfl
        refine ls (qv F (hr _ _ _ _ _ _) fun a F => ?_)
        refine ls (qv F (r_ldA (F.ev (x := .tmp 28) rfl) (H.range 1 rfl) agg37 rfl) fun a F => ?_)
        refine ls (lal F H ti37 (cs := [.int .i64 0, .int .i64 0, .int .i64 0, .slice none 0 0]) rfl fun g21 w a H F => ?_)
        obtain ⟨_, hr, H⟩ := Hp.store (t := 37) (o := 0) (n := 4) (vs := [.int .i64 ((a0.getD (x8 : Int).toNat (⟨0, 0, 0, []⟩ : law22_Op)).What), .int .i64 ((a0.getD (x8 : Int).toNat (⟨0, 0, 0, []⟩ : law22_Op)).To), .int .i64 ((a0.getD (x8 : Int).toNat (⟨0, 0, 0, []⟩ : law22_Op)).I), .slice A19 ((a0.getD (x8 : Int).toNat (⟨0, 0, 0, []⟩ : law22_Op)).B).length c20]) (cs' := [.int .i64 ((a0.getD (x8 : Int).toNat (⟨0, 0, 0, []⟩ : law22_Op)).What), .int .i64 ((a0.getD (x8 : Int).toNat (⟨0, 0, 0, []⟩ : law22_Op)).To), .int .i64 ((a0.getD (x8 : Int).toNat (⟨0, 0, 0, []⟩ : law22_Op)).I), .slice A19 ((a0.getD (x8 : Int).toNat (⟨0, 0, 0, []⟩ : law22_Op)).B).length c20]) (H) (F.ev (x := .tmp 7) rfl) (F.ev (x := .tmp 29) rfl) rfl sz37 rfl (Nat.le_of_ble_eq_true rfl) rfl rfl
        refine ls (qn F (.inl rfl) (hr _ _ _ _) fun a F => ?_)
        refine rgend ?_
        refine rg ?_
        refine as_ F (v := .bool false) rfl fun a F => ?_
        refine rgend ?_
        refine rg ?_
        refine as_ F (v := .bool false) rfl fun a F => ?_
        refine rgend ?_
        refine rg ?_
        refine as_ F (v := .slice none 0 0) rfl fun a F => ?_
        refine rgend ?_
        refine rg ?_
        refine as_ F (v := .slice none 0 0) rfl fun a F => ?_
        refine rgend ?_
        refine wp_seq ?_
        refine rg ?_
        refine ls (qv F (r_fa (off := 0) (F.ev (x := .tmp 7) rfl) fa37_0) fun a F => ?_)
        refine ls (qv F (r_ld (F.ev (x := .tmp 30) rfl) (cel_cell (o := 0) (H.cell 0 rfl) rfl) one3) fun a F => ?_)
        refine rgend ?_
        refine wp_block ?_
        refine rg ?_
        refine ls (qv F (r_eq (F.ev (x := .tmp 31) rfl) (F.ev (x := .const (.int .i64 2)) rfl)) fun a F => ?_)
        refine as_ F rfl fun a F => ?_
        refine rgend ?_
        obtain ⟨o_32, k_32, j_12⟩ := Option.bind_eq_some_iff.1 j_12
        refine cut (fun a w => ∃ (x22 : Bool) (x23 : Bool) (x24 : List Int) (x27 : List Int) (x30 : Bool) (x31 : lan_Lan) (x32 : ref22_Lan), (x22, x23, x24, x27, x30, x31, x32) = o_32 ∧ ∃ (A25 : Option Addr) (c26 : Nat) (A28 : Option Addr) (c29 : Nat), Fr 120 [] [(0, .slice A0_ a0.length c0_), (2, .bool false), (3, .bool x1), (4, .pointer (some ⟨g6, 0, none⟩)), (5, .pointer (some ⟨g7, 0, none⟩)), (6, .int .i64 x8), (7, .pointer (some ⟨g21, 0, none⟩)), (8, .bool x22), (9, .bool x23), (10, .slice A25 x24.length c26), (11, .slice A28 x27.length c29), (20, .int .i64 x8), (21, .slice A0_ a0.length c0_), (22, .int .i64 (a0.length : Int)), (23, .bool true), (26, .slice A0_ a0.length c0_), (27, .int .i64 x8), (28, .pointer (some ⟨g16, o17, none⟩)), (29, .agg #[.int .i64 ((a0.getD (x8 : Int).toNat (⟨0, 0, 0, []⟩ : law22_Op)).What), .int .i64 ((a0.getD (x8 : Int).toNat (⟨0, 0, 0, []⟩ : law22_Op)).To), .int .i64 ((a0.getD (x8 : Int).toNat (⟨0, 0, 0, []⟩ : law22_Op)).I), .slice A19 ((a0.getD (x8 : Int).toNat (⟨0, 0, 0, []⟩ : law22_Op)).B).length c20]), (30, .pointer (some ⟨g21, 0, none⟩)), (31, .int .i64 ((a0.getD (x8 : Int).toNat (⟨0, 0, 0, []⟩ : law22_Op)).What)), (44, .bool x30), (45, .bool x30)] a ∧ Hp w0 (rd kByte A28 c29 x27 :: rd k_law22_Op A0_ c0_ a0 :: rd kByte A19 c20 ((a0.getD (x8 : Int).toNat (⟨0, 0, 0, []⟩ : law22_Op)).B) :: celz g16 o17 [.int .i64 ((a0.getD (x8 : Int).toNat (⟨0, 0, 0, []⟩ : law22_Op)).What), .int .i64 ((a0.getD (x8 : Int).toNat (⟨0, 0, 0, []⟩ : law22_Op)).To), .int .i64 ((a0.getD (x8 : Int).toNat (⟨0, 0, 0, []⟩ : law22_Op)).I), .slice A19 ((a0.getD (x8 : Int).toNat (⟨0, 0, 0, []⟩ : law22_Op)).B).length c20] :: ps) (own kByte 5 A25 c26 x24 :: cel g21 [.int .i64 ((a0.getD (x8 : Int).toNat (⟨0, 0, 0, []⟩ : law22_Op)).What), .int .i64 ((a0.getD (x8 : Int).toNat (⟨0, 0, 0, []⟩ : law22_Op)).To), .int .i64 ((a0.getD (x8 : Int).toNat (⟨0, 0, 0, []⟩ : law22_Op)).I), .slice A19 ((a0.getD (x8 : Int).toNat (⟨0, 0, 0, []⟩ : law22_Op)).B).length c20] 37 :: obj_lan_Lan g6 x31 :: obj_ref22_Lan g7 x32 :: fs) w) ?_ ?_
        · skip
          by_cases c34 : ((a0.getD (x8 : Int).toNat (⟨0, 0, 0, []⟩ : law22_Op)).What) = 2
          · rw [if_pos c34] at k_32
            rw [decide_eq_true c34] at F
            refine wp_cond_true (F.ev rfl) ?_
            refine rg ?_
            refine mv F rfl fun a F => ?_
            refine ls (qv F (r_fa (off := 1) (F.ev (x := .tmp 7) rfl) fa37_1) fun a F => ?_)
            refine ls (qv F (r_ld (F.ev (x := .tmp 48) rfl) (cel_cell (o := 1) (H.cell 0 rfl) rfl) one3) fun a F => ?_)
            refine ls (qv F (r_fa (off := 2) (F.ev (x := .tmp 7) rfl) fa37_2) fun a F => ?_)
            refine ls (qv F (r_ld (F.ev (x := .tmp 50) rfl) (cel_cell (o := 2) (H.cell 0 rfl) rfl) one3) fun a F => ?_)
            obtain ⟨⟨x35, x36, x37⟩, e38, k_32⟩ := Option.bind_eq_some_iff.1 k_32
            try dsimp only at k_32
            refine ls (call F Try.func10 (lan_Lan_Take_ok (H.f2.f1.f2) e38) rfl rfl fun v w hR a F => ?_)
            obtain ⟨A39, c40, rfl, H⟩ := hR
            refine mv F rfl fun a F => ?_
            refine ls (qv F (r_ex (F.ev (x := .tmp 46) rfl) rfl) fun a F => ?_)
            refine ls (qv F (r_ex (F.ev (x := .tmp 46) rfl) rfl) fun a F => ?_)
            refine as_ F rfl fun a F => ?_
            refine as_ F rfl fun a F => ?_
            refine rgend ?_
            refine wp_region_lit ?_
            refine mv F rfl fun a F => ?_
            refine ls (qv F (r_fa (off := 1) (F.ev (x := .tmp 7) rfl) fa37_1) fun a F => ?_)
            refine ls (qv F (r_ld (F.ev (x := .tmp 57) rfl) (cel_cell (o := 1) (H.cell 2 rfl) rfl) one3) fun a F => ?_)
            refine ls (qv F (r_fa (off := 2) (F.ev (x := .tmp 7) rfl) fa37_2) fun a F => ?_)
            refine ls (qv F (r_ld (F.ev (x := .tmp 59) rfl) (cel_cell (o := 2) (H.cell 2 rfl) rfl) one3) fun a F => ?_)
            obtain ⟨⟨x41, x42, x43⟩, e44, k_32⟩ := Option.bind_eq_some_iff.1 k_32
            try dsimp only at k_32
            refine ls (call F Try.func11 (ref22_Lan_Take_ok (H.f2.f2.f2.f3) e44) rfl rfl fun v w hR a F => ?_)
            obtain ⟨A45, c46, rfl, H⟩ := hR
            refine mv F rfl fun a F => ?_
            refine ls (qv F (r_ex (F.ev (x := .tmp 55) rfl) rfl) fun a F => ?_)
            refine ls (qv F (r_ex (F.ev (x := .tmp 55) rfl) rfl) fun a F => ?_)
            refine as_ F rfl fun a F => ?_
            refine as_ F rfl fun a F => ?_
            refine wpList_nil ?_
            replace F := F.only [9, 11, 63, 62, 55, 61, 60, 59, 58, 57, 56, 8, 10, 54, 53, 46, 52, 51, 50, 49, 48, 47, 44, 45, 31, 30, 7, 29, 28, 27, 26, 23, 22, 21, 20, 0, 2, 3, 4, 5, 6] (l' := [(9, .bool x42), (11, .slice A45 x41.length c46), (63, .bool x42), (62, .slice A45 x41.length c46), (55, .tuple #[.slice A45 x41.length c46, .bool x42]), (61, .tuple #[.slice A45 x41.length c46, .bool x42]), (60, .int .i64 ((a0.getD (x8 : Int).toNat (⟨0, 0, 0, []⟩ : law22_Op)).I)), (59, .pointer (some ⟨g21, 2, none⟩)), (58, .int .i64 ((a0.getD (x8 : Int).toNat (⟨0, 0, 0, []⟩ : law22_Op)).To)), (57, .pointer (some ⟨g21, 1, none⟩)), (56, .pointer (some ⟨g7, 0, none⟩)), (8, .bool x36), (10, .slice A39 x35.length c40), (54, .bool x36), (53, .slice A39 x35.length c40), (46, .tuple #[.slice A39 x35.length c40, .bool x36]), (52, .tuple #[.slice A39 x35.length c40, .bool x36]), (51, .int .i64 ((a0.getD (x8 : Int).toNat (⟨0, 0, 0, []⟩ : law22_Op)).I)), (50, .pointer (some ⟨g21, 2, none⟩)), (49, .int .i64 ((a0.getD (x8 : Int).toNat (⟨0, 0, 0, []⟩ : law22_Op)).To)), (48, .pointer (some ⟨g21, 1, none⟩)), (47, .pointer (some ⟨g6, 0, none⟩)), (44, .bool true), (45, .bool true), (31, .int .i64 ((a0.getD (x8 : Int).toNat (⟨0, 0, 0, []⟩ : law22_Op)).What)), (30, .pointer (some ⟨g21, 0, none⟩)), (7, .pointer (some ⟨g21, 0, none⟩)), (29, .agg #[.int .i64 ((a0.getD (x8 : Int).toNat (⟨0, 0, 0, []⟩ : law22_Op)).What), .int .i64 ((a0.getD (x8 : Int).toNat (⟨0, 0, 0, []⟩ : law22_Op)).To), .int .i64 ((a0.getD (x8 : Int).toNat (⟨0, 0, 0, []⟩ : law22_Op)).I), .slice A19 ((a0.getD (x8 : Int).toNat (⟨0, 0, 0, []⟩ : law22_Op)).B).length c20]), (28, .pointer (some ⟨g16, o17, none⟩)), (27, .int .i64 x8), (26, .slice A0_ a0.length c0_), (23, .bool true), (22, .int .i64 (a0.length : Int)), (21, .slice A0_ a0.length c0_), (20, .int .i64 x8), (0, .slice A0_ a0.length c0_), (2, .bool false), (3, .bool x1), (4, .pointer (some ⟨g6, 0, none⟩)), (5, .pointer (some ⟨g7, 0, none⟩)), (6, .int .i64 x8)]) rfl
            try dsimp only at k_32
            cases k_32
            exact ⟨_, _, _, _, _, _, _, rfl, A39, c40, A45, c46, F.only [0, 2, 3, 4, 5, 6, 7, 8, 9, 10, 11, 20, 21, 22, 23, 26, 27, 28, 29, 30, 31, 44, 45] rfl, H.p2.p2.p6.p3.px4.px4.px4.px4.px4.f2.f3.f3⟩
          · rw [if_neg c34] at k_32
            rw [decide_eq_false c34] at F
            refine wp_cond_false (F.ev rfl) ?_
            refine rg ?_
            refine ls (qv F (r_eq (F.ev (x := .tmp 31) rfl) (F.ev (x := .const (.int .i64 3)) rfl)) fun a F => ?_)
            refine as_ F rfl fun a F => ?_
            refine rgend ?_
            obtain ⟨o_57, k_57, k_32⟩ := Option.bind_eq_some_iff.1 k_32
            refine cut (fun a w => ∃ (x47 : Bool) (x48 : Bool) (x49 : List Int) (x52 : List Int) (x55 : Bool) (x56 : lan_Lan) (x57 : ref22_Lan), (x47, x48, x49, x52, x55, x56, x57) = o_57 ∧ ∃ (A50 : Option Addr) (c51 : Nat) (A53 : Option Addr) (c54 : Nat), Fr 120 [] [(0, .slice A0_ a0.length c0_), (2, .bool false), (3, .bool x1), (4, .pointer (some ⟨g6, 0, none⟩)), (5, .pointer (some ⟨g7, 0, none⟩)), (6, .int .i64 x8), (7, .pointer (some ⟨g21, 0, none⟩)), (8, .bool x47), (9, .bool x48), (10, .slice A50 x49.length c51), (11, .slice A53 x52.length c54), (20, .int .i64 x8), (21, .slice A0_ a0.length c0_), (22, .int .i64 (a0.length : Int)), (23, .bool true), (26, .slice A0_ a0.length c0_), (27, .int .i64 x8), (28, .pointer (some ⟨g16, o17, none⟩)), (29, .agg #[.int .i64 ((a0.getD (x8 : Int).toNat (⟨0, 0, 0, []⟩ : law22_Op)).What), .int .i64 ((a0.getD (x8 : Int).toNat (⟨0, 0, 0, []⟩ : law22_Op)).To), .int .i64 ((a0.getD (x8 : Int).toNat (⟨0, 0, 0, []⟩ : law22_Op)).I), .slice A19 ((a0.getD (x8 : Int).toNat (⟨0, 0, 0, []⟩ : law22_Op)).B).length c20]), (30, .pointer (some ⟨g21, 0, none⟩)), (31, .int .i64 ((a0.getD (x8 : Int).toNat (⟨0, 0, 0, []⟩ : law22_Op)).What)), (44, .bool false), (45, .bool false), (64, .bool x55), (65, .bool x55)] a ∧ Hp w0 (rd kByte A53 c54 x52 :: rd k_law22_Op A0_ c0_ a0 :: rd kByte A19 c20 ((a0.getD (x8 : Int).toNat (⟨0, 0, 0, []⟩ : law22_Op)).B) :: celz g16 o17 [.int .i64 ((a0.getD (x8 : Int).toNat (⟨0, 0, 0, []⟩ : law22_Op)).What), .int .i64 ((a0.getD (x8 : Int).toNat (⟨0, 0, 0, []⟩ : law22_Op)).To), .int .i64 ((a0.getD (x8 : Int).toNat (⟨0, 0, 0, []⟩ : law22_Op)).I), .slice A19 ((a0.getD (x8 : Int).toNat (⟨0, 0, 0, []⟩ : law22_Op)).B).length c20] :: ps) (own kByte 5 A50 c51 x49 :: cel g21 [.int .i64 ((a0.getD (x8 : Int).toNat (⟨0, 0, 0, []⟩ : law22_Op)).What), .int .i64 ((a0.getD (x8 : Int).toNat (⟨0, 0, 0, []⟩ : law22_Op)).To), .int .i64 ((a0.getD (x8 : Int).toNat (⟨0, 0, 0, []⟩ : law22_Op)).I), .slice A19 ((a0.getD (x8 : Int).toNat (⟨0, 0, 0, []⟩ : law22_Op)).B).length c20] 37 :: obj_lan_Lan g6 x56 :: obj_ref22_Lan g7 x57 :: fs) w) ?_ ?_
            · skip
              by_cases c59 : ((a0.getD (x8 : Int).toNat (⟨0, 0, 0, []⟩ : law22_Op)).What) = 3
              · rw [if_pos c59] at k_57
                rw [decide_eq_true c59] at F
                refine wp_cond_true (F.ev rfl) ?_
                refine rg ?_
                refine mv F rfl fun a F => ?_
                refine ls (qv F (r_fa (off := 1) (F.ev (x := .tmp 7) rfl) fa37_1) fun a F => ?_)
                refine ls (qv F (r_ld (F.ev (x := .tmp 68) rfl) (cel_cell (o := 1) (H.cell 0 rfl) rfl) one3) fun a F => ?_)
                refine ls (qv F (r_fa (off := 2) (F.ev (x := .tmp 7) rfl) fa37_2) fun a F => ?_)
                refine ls (qv F (r_ld (F.ev (x := .tmp 70) rfl) (cel_cell (o := 2) (H.cell 0 rfl) rfl) one3) fun a F => ?_)
                obtain ⟨⟨x60, x61, x62⟩, e63, k_57⟩ := Option.bind_eq_some_iff.1 k_57
                try dsimp only at k_57
                refine ls (call F Try.func12 (lan_Lan_Copy_ok (H.f2.f1.f2) e63) rfl rfl fun v w hR a F => ?_)
                obtain ⟨A64, c65, rfl, H⟩ := hR
                refine mv F rfl fun a F => ?_
                refine ls (qv F (r_ex (F.ev (x := .tmp 66) rfl) rfl) fun a F => ?_)
                refine ls (qv F (r_ex (F.ev (x := .tmp 66) rfl) rfl) fun a F => ?_)
                refine as_ F rfl fun a F => ?_
                refine as_ F rfl fun a F => ?_
                refine rgend ?_
                refine wp_region_lit ?_
                refine mv F rfl fun a F => ?_
                refine ls (qv F (r_fa (off := 1) (F.ev (x := .tmp 7) rfl) fa37_1) fun a F => ?_)
                refine ls (qv F (r_ld (F.ev (x := .tmp 77) rfl) (cel_cell (o := 1) (H.cell 2 rfl) rfl) one3) fun a F => ?_)
                refine ls (qv F (r_fa (off := 2) (F.ev (x := .tmp 7) rfl) fa37_2) fun a F => ?_)
                refine ls (qv F (r_ld (F.ev (x := .tmp 79) rfl) (cel_cell (o := 2) (H.cell 2 rfl) rfl) one3) fun a F => ?_)
                obtain ⟨⟨x66, x67⟩, e68, k_57⟩ := Option.bind_eq_some_iff.1 k_57
                try dsimp only at k_57
                refine ls (call F Try.func13 (ref22_Lan_Copy_ok (H.f2.f2.f2.f3) e68) rfl rfl fun v w hR a F => ?_)
                obtain ⟨A69, c70, rfl, H⟩ := hR
                refine mv F rfl fun a F => ?_
                refine ls (qv F (r_ex (F.ev (x := .tmp 75) rfl) rfl) fun a F => ?_)
                refine ls (qv F (r_ex (F.ev (x := .tmp 75) rfl) rfl) fun a F => ?_)
                refine as_ F rfl fun a F => ?_
                refine as_ F rfl fun a F => ?_
                refine wpList_nil ?_
                replace F := F.only [9, 11, 83, 82, 75, 81, 80, 79, 78, 77, 76, 8, 10, 74, 73, 66, 72, 71, 70, 69, 68, 67, 64, 65, 44, 45, 31, 30, 7, 29, 28, 27, 26, 23, 22, 21, 20, 0, 2, 3, 4, 5, 6] (l' := [(9, .bool x67), (11, .slice A69 x66.length c70), (83, .bool x67), (82, .slice A69 x66.length c70), (75, .tuple #[.slice A69 x66.length c70, .bool x67]), (81, .tuple #[.slice A69 x66.length c70, .bool x67]), (80, .int .i64 ((a0.getD (x8 : Int).toNat (⟨0, 0, 0, []⟩ : law22_Op)).I)), (79, .pointer (some ⟨g21, 2, none⟩)), (78, .int .i64 ((a0.getD (x8 : Int).toNat (⟨0, 0, 0, []⟩ : law22_Op)).To)), (77, .pointer (some ⟨g21, 1, none⟩)), (76, .pointer (some ⟨g7, 0, none⟩)), (8, .bool x61), (10, .slice A64 x60.length c65), (74, .bool x61), (73, .slice A64 x60.length c65), (66, .tuple #[.slice A64 x60.length c65, .bool x61]), (72, .tuple #[.slice A64 x60.length c65, .bool x61]), (71, .int .i64 ((a0.getD (x8 : Int).toNat (⟨0, 0, 0, []⟩ : law22_Op)).I)), (70, .pointer (some ⟨g21, 2, none⟩)), (69, .int .i64 ((a0.getD (x8 : Int).toNat (⟨0, 0, 0, []⟩ : law22_Op)).To)), (68, .pointer (some ⟨g21, 1, none⟩)), (67, .pointer (some ⟨g6, 0, none⟩)), (64, .bool true), (65, .bool true), (44, .bool false), (45, .bool false), (31, .int .i64 ((a0.getD (x8 : Int).toNat (⟨0, 0, 0, []⟩ : law22_Op)).What)), (30, .pointer (some ⟨g21, 0, none⟩)), (7, .pointer (some ⟨g21, 0, none⟩)), (29, .agg #[.int .i64 ((a0.getD (x8 : Int).toNat (⟨0, 0, 0, []⟩ : law22_Op)).What), .int .i64 ((a0.getD (x8 : Int).toNat (⟨0, 0, 0, []⟩ : law22_Op)).To), .int .i64 ((a0.getD (x8 : Int).toNat (⟨0, 0, 0, []⟩ : law22_Op)).I), .slice A19 ((a0.getD (x8 : Int).toNat (⟨0, 0, 0, []⟩ : law22_Op)).B).length c20]), (28, .pointer (some ⟨g16, o17, none⟩)), (27, .int .i64 x8), (26, .slice A0_ a0.length c0_), (23, .bool true), (22, .int .i64 (a0.length : Int)), (21, .slice A0_ a0.length c0_), (20, .int .i64 x8), (0, .slice A0_ a0.length c0_), (2, .bool false), (3, .bool x1), (4, .pointer (some ⟨g6, 0, none⟩)), (5, .pointer (some ⟨g7, 0, none⟩)), (6, .int .i64 x8)]) rfl
                try dsimp only at k_57
                cases k_57
                exact ⟨_, _, _, _, _, _, _, rfl, A64, c65, A69, c70, F.only [0, 2, 3, 4, 5, 6, 7, 8, 9, 10, 11, 20, 21, 22, 23, 26, 27, 28, 29, 30, 31, 44, 45, 64, 65] rfl, H.p2.p2.p6.p3.px4.px4.px4.px4.px4.f2.f3.f3⟩
              · rw [if_neg c59] at k_57
                rw [decide_eq_false c59] at F
                refine wp_cond_false (F.ev rfl) ?_
                refine rg ?_
                refine mv F rfl fun a F => ?_
                refine ls (qv F (r_fa (off := 1) (F.ev (x := .tmp 7) rfl) fa37_1) fun a F => ?_)
                refine ls (qv F (r_ld (F.ev (x := .tmp 33) rfl) (cel_cell (o := 1) (H.cell 0 rfl) rfl) one3) fun a F => ?_)
                refine ls (qv F (r_fa (off := 3) (F.ev (x := .tmp 7) rfl) fa37_3) fun a F => ?_)
                refine ls (qv F (r_ld (F.ev (x := .tmp 35) rfl) (cel_cell (o := 3) (H.cell 0 rfl) rfl) one35) fun a F => ?_)
                obtain ⟨⟨x71, x72⟩, e73, k_57⟩ := Option.bind_eq_some_iff.1 k_57
                try dsimp only at k_57
                refine ls (call F Try.func14 (lan_Lan_Put_ok (H.p0.f2.f1.f2) e73) rfl rfl fun v w hR a F => ?_)
                obtain ⟨rfl, H⟩ := hR
                refine as_ F rfl fun a F => ?_
                refine rgend ?_
                refine wp_region_lit ?_
                refine mv F rfl fun a F => ?_
                refine ls (qv F (r_fa (off := 1) (F.ev (x := .tmp 7) rfl) fa37_1) fun a F => ?_)
                refine ls (qv F (r_ld (F.ev (x := .tmp 39) rfl) (cel_cell (o := 1) (H.cell 1 rfl) rfl) one3) fun a F => ?_)
                refine ls (qv F (r_fa (off := 3) (F.ev (x := .tmp 7) rfl) fa37_3) fun a F => ?_)
                refine ls (qv F (r_ld (F.ev (x := .tmp 41) rfl) (cel_cell (o := 3) (H.cell 1 rfl) rfl) one35) fun a F => ?_)
                obtain ⟨⟨x74, x75⟩, e76, k_57⟩ := Option.bind_eq_some_iff.1 k_57
                try dsimp only at k_57
                refine ls (call F Try.func15 (ref22_Lan_Put_ok (H.p0.f1.f1.f2) e76) rfl rfl fun v w hR a F => ?_)
                obtain ⟨rfl, H⟩ := hR
                refine as_ F rfl fun a F => ?_
                refine wpList_nil ?_
                replace H := H.nilOwn kByte 5
                replace H := H.nilRd kByte
                try dsimp only at k_57
                cases k_57
                exact ⟨_, _, _, _, _, _, _, rfl, none, 0, none, 0, F.only [0, 2, 3, 4, 5, 6, 7, 8, 9, 10, 11, 20, 21, 22, 23, 26, 27, 28, 29, 30, 31, 44, 45, 64, 65] rfl, H.p2.p2.p6.p3.px4.px4.px4.px4.px4.f1.f2.f3.f3⟩
            · rintro a w ⟨x47, x48, x49, x52, x55, x56, x57, rfl, A50, c51, A53, c54, F, H⟩
              try dsimp only at k_32 F H
              try dsimp only at k_32
              cases k_32
              exact ⟨_, _, _, _, _, _, _, rfl, A50, c51, A53, c54, F.only [0, 2, 3, 4, 5, 6, 7, 8, 9, 10, 11, 20, 21, 22, 23, 26, 27, 28, 29, 30, 31, 44, 45] rfl, H⟩
        · rintro a w ⟨x22, x23, x24, x27, x30, x31, x32, rfl, A25, c26, A28, c29, F, H⟩
          try dsimp only at j_12 F H
          refine wp_seq ?_
          replace H := H.drew
          have HS := H.fx3.fx2.fx0
          refine dr (fun w => Hp w0 (rd kByte A28 c29 x27 :: rd k_law22_Op A0_ c0_ a0 :: rd kByte A19 c20 ((a0.getD (x8 : Int).toNat (⟨0, 0, 0, []⟩ : law22_Op)).B) :: celz g16 o17 [.int .i64 ((a0.getD (x8 : Int).toNat (⟨0, 0, 0, []⟩ : law22_Op)).What), .int .i64 ((a0.getD (x8 : Int).toNat (⟨0, 0, 0, []⟩ : law22_Op)).To), .int .i64 ((a0.getD (x8 : Int).toNat (⟨0, 0, 0, []⟩ : law22_Op)).I), .slice A19 ((a0.getD (x8 : Int).toNat (⟨0, 0, 0, []⟩ : law22_Op)).B).length c20] :: ps) (cel g21 [.int .i64 ((a0.getD (x8 : Int).toNat (⟨0, 0, 0, []⟩ : law22_Op)).What), .int .i64 ((a0.getD (x8 : Int).toNat (⟨0, 0, 0, []⟩ : law22_Op)).To), .int .i64 ((a0.getD (x8 : Int).toNat (⟨0, 0, 0, []⟩ : law22_Op)).I), .slice A19 ((a0.getD (x8 : Int).toNat (⟨0, 0, 0, []⟩ : law22_Op)).B).length c20] 37 :: fs) w) _ (by kernel_rfl) ?_ (n := 35)
          refine dq 0 F rfl (by kernel_rfl) NP HS (fun w S => (r_mv (F.ev (x := .tmp 8) rfl))) fun a F => ?_
          refine dq 1 F rfl (by kernel_rfl) NP HS (fun w S => (r_mv (F.ev (x := .tmp 9) rfl))) fun a F => ?_
          refine dq 2 F rfl (by kernel_rfl) NP HS (fun w S => (r_bne (F.ev (x := .tmp 84) rfl) (F.ev (x := .tmp 85) rfl) Try.underlying4)) fun a F => ?_
          refine dq 3 F rfl (by kernel_rfl) NP HS (fun w S => (r_mv (F.ev (x := .tmp 86) rfl))) fun a F => ?_
          by_cases c77 : (x22 != x23) = true
          · rw [if_pos c77] at j_12
            rw [c77] at F
            refine doff 4 F rfl (by kernel_rfl) NP HS fun a F => ?_
            refine doff 5 F rfl (by kernel_rfl) NP HS fun a F => ?_
            refine doff 6 F rfl (by kernel_rfl) NP HS fun a F => ?_
            refine doff 7 F rfl (by kernel_rfl) NP HS fun a F => ?_
            refine doff 8 F rfl (by kernel_rfl) NP HS fun a F => ?_
            refine dq 9 F rfl (by kernel_rfl) NP HS (fun w S => (r_pickT (F.ev (x := .tmp 87) rfl) (F.ev (x := .const (.bool true)) rfl))) fun a F => ?_
            refine dq 10 F rfl (by kernel_rfl) NP HS (fun w S => (r_mv (F.ev (x := .tmp 93) rfl))) fun a F => ?_
            refine doff 11 F rfl (by kernel_rfl) NP HS fun a F => ?_
            refine doff 12 F rfl (by kernel_rfl) NP HS fun a F => ?_
            refine doff 13 F rfl (by kernel_rfl) NP HS fun a F => ?_
            refine doff 14 F rfl (by kernel_rfl) NP HS fun a F => ?_
            refine doff 15 F rfl (by kernel_rfl) NP HS fun a F => ?_
            refine dq 16 F rfl (by kernel_rfl) NP HS (fun w S => (r_pickT (F.ev (x := .tmp 94) rfl) (F.ev (x := .const (.bool true)) rfl))) fun a F => ?_
            refine dq 17 F rfl (by kernel_rfl) NP HS (fun w S => (r_mv (F.ev (x := .tmp 100) rfl))) fun a F => ?_
            refine doff 18 F rfl (by kernel_rfl) NP HS fun a F => ?_
            refine doff 19 F rfl (by kernel_rfl) NP HS fun a F => ?_
            refine doff 20 F rfl (by kernel_rfl) NP HS fun a F => ?_
            refine doff 21 F rfl (by kernel_rfl) NP HS fun a F => ?_
            refine doff 22 F rfl (by kernel_rfl) NP HS fun a F => ?_
            refine dq 23 F rfl (by kernel_rfl) NP HS (fun w S => (r_pickT (F.ev (x := .tmp 101) rfl) (F.ev (x := .const (.bool true)) rfl))) fun a F => ?_
            refine dq 24 F rfl (by kernel_rfl) NP HS (fun w S => (r_mv (F.ev (x := .tmp 107) rfl))) fun a F => ?_
            refine doff 25 F rfl (by kernel_rfl) NP HS fun a F => ?_
            refine doff 26 F rfl (by kernel_rfl) NP HS fun a F => ?_
            refine doff 27 F rfl (by kernel_rfl) NP HS fun a F => ?_
            refine doff 28 F rfl (by kernel_rfl) NP HS fun a F => ?_
            refine doff 29 F rfl (by kernel_rfl) NP HS fun a F => ?_
            refine doff 30 F rfl (by kernel_rfl) NP HS fun a F => ?_
            refine doff 31 F rfl (by kernel_rfl) NP HS fun a F => ?_
            refine doff 32 F rfl (by kernel_rfl) NP HS fun a F => ?_
            refine doff 33 F rfl (by kernel_rfl) NP HS fun a F => ?_
            refine dq 34 F rfl (by kernel_rfl) NP HS (fun w S => (r_pickT (F.ev (x := .tmp 108) rfl) (F.ev (x := .const (.bool true)) rfl))) fun a F => ?_
            refine ddone (by kernel_rfl) ?_
            refine wp_cond_true (F.ev rfl) ?_
            refine rg ?_
            refine as_ F (v := .bool false) rfl fun a F => ?_
            refine rgend ?_
            refine wp_ret ?_
            try dsimp only at j_12
            cases j_12
            cases u_12 _ rfl
            try dsimp only at h
            cases h
            exact RET _ _ (ret1 F rfl rfl ⟨_, rfl, rfl, H.px3.px2.px1.px0.fx3.fx2.fx1.fx0⟩)
          · rw [if_neg c77] at j_12
            rw [Bool.eq_false_iff.2 c77] at F
            refine dq 4 F rfl (by kernel_rfl) NP HS (fun w S => (r_mv (F.ev (x := .tmp 10) rfl))) fun a F => ?_
            replace H := (H).freeze
            have hb78 := H.bytes 0 rfl
            have HS := H.fx2.fx1
            refine dmoreH HS (fun w S => S.px0) ?_
            refine dq 5 F rfl (by kernel_rfl) NP HS (fun w S => (S.str 0 rfl (F.ev (x := .tmp 88) rfl) Try.underlying35 Try.underlying5 Try.underlying9)) fun a F => ?_
            refine dq 6 F rfl (by kernel_rfl) NP HS (fun w S => (r_mv (F.ev (x := .tmp 11) rfl))) fun a F => ?_
            have hb79 := H.bytes 1 rfl
            refine dq 7 F rfl (by kernel_rfl) NP HS (fun w S => (S.str 1 rfl (F.ev (x := .tmp 90) rfl) Try.underlying35 Try.underlying5 Try.underlying9)) fun a F => ?_
            refine dq 8 F rfl (by kernel_rfl) NP HS (fun w S => (r_sne (F.ev (x := .tmp 89) rfl) (F.ev (x := .tmp 91) rfl) hb78 hb79)) fun a F => ?_
            refine dq 9 F rfl (by kernel_rfl) NP HS (fun w S => (r_pickF (F.ev (x := .tmp 87) rfl) (F.ev (x := .tmp 92) rfl))) fun a F => ?_
            refine dq 10 F rfl (by kernel_rfl) NP HS (fun w S => (r_mv (F.ev (x := .tmp 93) rfl))) fun a F => ?_
            by_cases c80 : x24 ≠ x27
            · rw [if_pos c80] at j_12
              rw [decide_eq_true c80] at F
              refine doff 11 F rfl (by kernel_rfl) NP HS fun a F => ?_
              refine doff 12 F rfl (by kernel_rfl) NP HS fun a F => ?_
              refine doff 13 F rfl (by kernel_rfl) NP HS fun a F => ?_
              refine doff 14 F rfl (by kernel_rfl) NP HS fun a F => ?_
              refine doff 15 F rfl (by kernel_rfl) NP HS fun a F => ?_
              refine dq 16 F rfl (by kernel_rfl) NP HS (fun w S => (r_pickT (F.ev (x := .tmp 94) rfl) (F.ev (x := .const (.bool true)) rfl))) fun a F => ?_
              refine dq 17 F rfl (by kernel_rfl) NP HS (fun w S => (r_mv (F.ev (x := .tmp 100) rfl))) fun a F => ?_
              refine doff 18 F rfl (by kernel_rfl) NP HS fun a F => ?_
              refine doff 19 F rfl (by kernel_rfl) NP HS fun a F => ?_
              refine doff 20 F rfl (by kernel_rfl) NP HS fun a F => ?_
              refine doff 21 F rfl (by kernel_rfl) NP HS fun a F => ?_
              refine doff 22 F rfl (by kernel_rfl) NP HS fun a F => ?_
              refine dq 23 F rfl (by kernel_rfl) NP HS (fun w S => (r_pickT (F.ev (x := .tmp 101) rfl) (F.ev (x := .const (.bool true)) rfl))) fun a F => ?_
              refine dq 24 F rfl (by kernel_rfl) NP HS (fun w S => (r_mv (F.ev (x := .tmp 107) rfl))) fun a F => ?_
              refine doff 25 F rfl (by kernel_rfl) NP HS fun a F => ?_
              refine doff 26 F rfl (by kernel_rfl) NP HS fun a F => ?_
              refine doff 27 F rfl (by kernel_rfl) NP HS fun a F => ?_
              refine doff 28 F rfl (by kernel_rfl) NP HS fun a F => ?_
              refine doff 29 F rfl (by kernel_rfl) NP HS fun a F => ?_
              refine doff 30 F rfl (by kernel_rfl) NP HS fun a F => ?_
              refine doff 31 F rfl (by kernel_rfl) NP HS fun a F => ?_
              refine doff 32 F rfl (by kernel_rfl) NP HS fun a F => ?_
              refine doff 33 F rfl (by kernel_rfl) NP HS fun a F => ?_
              refine dq 34 F rfl (by kernel_rfl) NP HS (fun w S => (r_pickT (F.ev (x := .tmp 108) rfl) (F.ev (x := .const (.bool true)) rfl))) fun a F => ?_
              refine ddone (by kernel_rfl) ?_
              refine wp_cond_true (F.ev rfl) ?_
              refine rg ?_
              refine as_ F (v := .bool false) rfl fun a F => ?_
              refine rgend ?_
              refine wp_ret ?_
              try dsimp only at j_12
              cases j_12
              cases u_12 _ rfl
              try dsimp only at h
              cases h
              exact RET _ _ (ret1 F rfl rfl ⟨_, rfl, rfl, H.px4.px3.px2.px1.px0.fx2.fx1.fx0⟩)
            · rw [if_neg c80] at j_12
              rw [decide_eq_false c80] at F
              refine dq 11 F rfl (by kernel_rfl) NP HS (fun w S => (r_mv (F.ev (x := .tmp 4) rfl))) fun a F => ?_
              refine dq 13 F rfl (by kernel_rfl) NP HS (fun w S => (r_mv (F.ev (x := .tmp 5) rfl))) fun a F => ?_
              obtain ⟨x81, e82, j_12⟩ := Option.bind_eq_some_iff.1 j_12
              try dsimp only at j_12
              refine d1 12 rfl (by kernel_rfl) (call F Try.func16 (lan_Lan_Many_ok (H.f2.f1.f2) e82) rfl rfl fun v w hR a F => ?_)
              obtain ⟨rfl, H⟩ := hR
              have HS := H.fx2.fx0
              refine kg _ HS (fun w S => S) ?_
              obtain ⟨x83, e84, j_12⟩ := Option.bind_eq_some_iff.1 j_12
              try dsimp only at j_12
              refine d1 14 rfl (by kernel_rfl) (call F Try.func17 (ref22_Lan_Many_ok (H.f1.f1.f2) e84) rfl rfl fun v w hR a F => ?_)
              obtain ⟨rfl, H⟩ := hR
              have HS := H.fx1.fx0
              refine kg _ HS (fun w S => S) ?_
              refine dq 15 F rfl (by kernel_rfl) NP HS (fun w S => (r_ne (F.ev (x := .tmp 96) rfl) (F.ev (x := .tmp 98) rfl))) fun a F => ?_
              refine dq 16 F rfl (by kernel_rfl) NP HS (fun w S => (r_pickF (F.ev (x := .tmp 94) rfl) (F.ev (x := .tmp 99) rfl))) fun a F => ?_
              refine dq 17 F rfl (by kernel_rfl) NP HS (fun w S => (r_mv (F.ev (x := .tmp 100) rfl))) fun a F => ?_
              by_cases c85 : x81 ≠ x83
              · rw [if_pos c85] at j_12
                rw [decide_eq_true c85] at F
                refine doff 18 F rfl (by kernel_rfl) NP HS fun a F => ?_
                refine doff 19 F rfl (by kernel_rfl) NP HS fun a F => ?_
                refine doff 20 F rfl (by kernel_rfl) NP HS fun a F => ?_
                refine doff 21 F rfl (by kernel_rfl) NP HS fun a F => ?_
                refine doff 22 F rfl (by kernel_rfl) NP HS fun a F => ?_
                refine dq 23 F rfl (by kernel_rfl) NP HS (fun w S => (r_pickT (F.ev (x := .tmp 101) rfl) (F.ev (x := .const (.bool true)) rfl))) fun a F => ?_
                refine dq 24 F rfl (by kernel_rfl) NP HS (fun w S => (r_mv (F.ev (x := .tmp 107) rfl))) fun a F => ?_
                refine doff 25 F rfl (by kernel_rfl) NP HS fun a F => ?_
                refine doff 26 F rfl (by kernel_rfl) NP HS fun a F => ?_
                refine doff 27 F rfl (by kernel_rfl) NP HS fun a F => ?_
                refine doff 28 F rfl (by kernel_rfl) NP HS fun a F => ?_
                refine doff 29 F rfl (by kernel_rfl) NP HS fun a F => ?_
                refine doff 30 F rfl (by kernel_rfl) NP HS fun a F => ?_
                refine doff 31 F rfl (by kernel_rfl) NP HS fun a F => ?_
                refine doff 32 F rfl (by kernel_rfl) NP HS fun a F => ?_
                refine doff 33 F rfl (by kernel_rfl) NP HS fun a F => ?_
                refine dq 34 F rfl (by kernel_rfl) NP HS (fun w S => (r_pickT (F.ev (x := .tmp 108) rfl) (F.ev (x := .const (.bool true)) rfl))) fun a F => ?_
                refine ddone (by kernel_rfl) ?_
                refine wp_cond_true (F.ev rfl) ?_
                refine rg ?_
                refine as_ F (v := .bool false) rfl fun a F => ?_
                refine rgend ?_
                refine wp_ret ?_
                try dsimp only at j_12
                cases j_12
                cases u_12 _ rfl
                try dsimp only at h
                cases h
                exact RET _ _ (ret1 F rfl rfl ⟨_, rfl, rfl, H.px4.px3.px2.px1.px0.fx2.fx1.fx0⟩)
              · rw [if_neg c85] at j_12
                rw [decide_eq_false c85] at F
                refine dq 18 F rfl (by kernel_rfl) NP HS (fun w S => (r_mv (F.ev (x := .tmp 4) rfl))) fun a F => ?_
                refine dq 20 F rfl (by kernel_rfl) NP HS (fun w S => (r_mv (F.ev (x := .tmp 5) rfl))) fun a F => ?_
                obtain ⟨x86, e87, j_12⟩ := Option.bind_eq_some_iff.1 j_12
                try dsimp only at j_12
                refine d1 19 rfl (by kernel_rfl) (call F Try.func16 (lan_Lan_Many_ok (H.f2.f1.f2) e87) rfl rfl fun v w hR a F => ?_)
                obtain ⟨rfl, H⟩ := hR
                have HS := H.fx1.fx0
                refine kg _ HS (fun w S => S) ?_
                obtain ⟨x88, e89, j_12⟩ := Option.bind_eq_some_iff.1 j_12
                try dsimp only at j_12
                refine d1 21 rfl (by kernel_rfl) (call F Try.func17 (ref22_Lan_Many_ok (H.f2.f1.f2) e89) rfl rfl fun v w hR a F => ?_)
                obtain ⟨rfl, H⟩ := hR
                have HS := H.fx1.fx0
                refine kg _ HS (fun w S => S) ?_
                refine dq 22 F rfl (by kernel_rfl) NP HS (fun w S => (r_ne (F.ev (x := .tmp 103) rfl) (F.ev (x := .tmp 105) rfl))) fun a F => ?_
                refine dq 23 F rfl (by kernel_rfl) NP HS (fun w S => (r_pickF (F.ev (x := .tmp 101) rfl) (F.ev (x := .tmp 106) rfl))) fun a F => ?_
                refine dq 24 F rfl (by kernel_rfl) NP HS (fun w S => (r_mv (F.ev (x := .tmp 107) rfl))) fun a F => ?_
                by_cases c90 : x86 ≠ x88
                · rw [if_pos c90] at j_12
                  rw [decide_eq_true c90] at F
                  refine doff 25 F rfl (by kernel_rfl) NP HS fun a F => ?_
                  refine doff 26 F rfl (by kernel_rfl) NP HS fun a F => ?_
                  refine doff 27 F rfl (by kernel_rfl) NP HS fun a F => ?_
                  refine doff 28 F rfl (by kernel_rfl) NP HS fun a F => ?_
                  refine doff 29 F rfl (by kernel_rfl) NP HS fun a F => ?_
                  refine doff 30 F rfl (by kernel_rfl) NP HS fun a F => ?_
                  refine doff 31 F rfl (by kernel_rfl) NP HS fun a F => ?_
                  refine doff 32 F rfl (by kernel_rfl) NP HS fun a F => ?_
                  refine doff 33 F rfl (by kernel_rfl) NP HS fun a F => ?_
                  refine dq 34 F rfl (by kernel_rfl) NP HS (fun w S => (r_pickT (F.ev (x := .tmp 108) rfl) (F.ev (x := .const (.bool true)) rfl))) fun a F => ?_
                  refine ddone (by kernel_rfl) ?_
                  refine wp_cond_true (F.ev rfl) ?_
                  refine rg ?_
                  refine as_ F (v := .bool false) rfl fun a F => ?_
                  refine rgend ?_
                  refine wp_ret ?_
                  try dsimp only at j_12
                  cases j_12
                  cases u_12 _ rfl
                  try dsimp only at h
                  cases h
                  exact RET _ _ (ret1 F rfl rfl ⟨_, rfl, rfl, H.px4.px3.px2.px1.px0.fx2.fx1.fx0⟩)
                · rw [if_neg c90] at j_12
                  rw [decide_eq_false c90] at F
                  refine dq 25 F rfl (by kernel_rfl) NP HS (fun w S => (r_mv (F.ev (x := .tmp 4) rfl))) fun a F => ?_
                  refine dq 26 F rfl (by kernel_rfl) NP HS (fun w S => (r_fa (off := 1) (F.ev (x := .tmp 7) rfl) fa37_1)) fun a F => ?_
                  refine dq 27 F rfl (by kernel_rfl) NP HS (fun w S => (r_ld (F.ev (x := .tmp 110) rfl) (cel_cell (o := 1) (S.cell 0 rfl) rfl) one3)) fun a F => ?_
                  refine dq 29 F rfl (by kernel_rfl) NP HS (fun w S => (r_mv (F.ev (x := .tmp 5) rfl))) fun a F => ?_
                  refine dq 30 F rfl (by kernel_rfl) NP HS (fun w S => (r_fa (off := 1) (F.ev (x := .tmp 7) rfl) fa37_1)) fun a F => ?_
                  refine dq 31 F rfl (by kernel_rfl) NP HS (fun w S => (r_ld (F.ev (x := .tmp 114) rfl) (cel_cell (o := 1) (S.cell 0 rfl) rfl) one3)) fun a F => ?_
                  obtain ⟨x91, e92, j_12⟩ := Option.bind_eq_some_iff.1 j_12
                  try dsimp only at j_12
                  refine d1 28 rfl (by kernel_rfl) (call F Try.func16 (lan_Lan_Many_ok (H.f2.f1.f2) e92) rfl rfl fun v w hR a F => ?_)
                  obtain ⟨rfl, H⟩ := hR
                  have HS := H.fx1.fx0
                  refine kg _ HS (fun w S => S) ?_
                  obtain ⟨x93, e94, j_12⟩ := Option.bind_eq_some_iff.1 j_12
                  try dsimp only at j_12
                  refine d1 32 rfl (by kernel_rfl) (call F Try.func17 (ref22_Lan_Many_ok (H.f2.f1.f2) e94) rfl rfl fun v w hR a F => ?_)
                  obtain ⟨rfl, H⟩ := hR
                  have HS := H.fx1.fx0
                  refine kg _ HS (fun w S => S) ?_
                  refine dq 33 F rfl (by kernel_rfl) NP HS (fun w S => (r_ne (F.ev (x := .tmp 112) rfl) (F.ev (x := .tmp 116) rfl))) fun a F => ?_
                  refine dq 34 F rfl (by kernel_rfl) NP HS (fun w S => (r_pickF (F.ev (x := .tmp 108) rfl) (F.ev (x := .tmp 117) rfl))) fun a F => ?_
                  refine ddone (by kernel_rfl) ?_
                  by_cases c95 : x91 ≠ x93
                  · rw [if_pos c95] at j_12
                    rw [decide_eq_true c95] at F
                    refine wp_cond_true (F.ev rfl) ?_
                    refine rg ?_
                    refine as_ F (v := .bool false) rfl fun a F => ?_
                    refine rgend ?_
                    refine wp_ret ?_
                    try dsimp only at j_12
                    cases j_12
                    cases u_12 _ rfl
                    try dsimp only at h
                    cases h
                    exact RET _ _ (ret1 F rfl rfl ⟨_, rfl, rfl, H.px4.px3.px2.px1.px0.fx2.fx1.fx0⟩)
                  · rw [if_neg c95] at j_12
                    rw [decide_eq_false c95] at F
                    refine wp_cond_false (F.ev rfl) ?_
                    refine wp_skip ?_
                    refine wp_region_lit ?_
                    refine mv F rfl fun a F => ?_
                    refine ls (qv F (r_add (F.ev (x := .tmp 24) rfl) (F.ev (x := .const (.int .i64 1)) rfl)) fun a F => ?_)
                    refine as_ F rfl fun a F => ?_
                    refine wpList_nil ?_
                    try dsimp only at j_12
                    cases j_12
                    exact ⟨_, rfl, F.only [0, 2, 3, 4, 5, 6] rfl, H.px4.px3.px1.px0.f1.fx2⟩
      · rw [if_neg c14] at j_12
        rw [decide_eq_false c14] at F
        refine wp_cond_false (F.ev rfl) ?_
        refine wp_exit ?_
        try dsimp only at j_12
        cases j_12
        cases u_12 _ rfl
        repeat (with_reducible refine exT ?_)
        with_reducible refine exB ?_
        exact ⟨_, _, rfl, F.only [2, 3] rfl, H.px0⟩
    · rintro a w ⟨x11, x12, rfl, F, H⟩
      try dsimp only at h F H
      refine rg ?_
      refine mv F rfl fun a F => ?_
      refine as_ F rfl fun a F => ?_
      refine rgend ?_
      refine wp_ret ?_
      try dsimp only at h
      cases h
      exact RET _ _ (ret1 F rfl rfl ⟨_, rfl, rfl, H.fx1.fx0⟩)
end Go.Proofs.Ytflkagoglhckoaa
