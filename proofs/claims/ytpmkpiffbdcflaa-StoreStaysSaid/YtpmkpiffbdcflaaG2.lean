/- What the functions compute. Printed by wip/gen. -/
import Derived.Test.YtpmkpiffbdcflaaG1
set_option linter.unusedVariables false
set_option linter.unusedSimpArgs false
namespace Go.Proofs.Ytpmkpiffbdcflaa
open Go Go.RowKit
def store_Store_Gen_f (a0 : store_Store) : Option (Int) :=
 some a0.now.Gen
set_option maxHeartbeats 4000000 in
set_option maxRecDepth 20000 in
theorem store_Store_Gen_ok {w0 w : World} {ps : List PF} {fs : List SF} {a0 : store_Store} {g0_ : Nat} {gx_ : Nat} {r0 : Int} (H : Hp w0 ps (obj_store_Store g0_ gx_ a0 :: fs) w) (h : store_Store_Gen_f a0 = some r0) :
  Calls Try.prog 20 [.pointer (some ⟨g0_, 0, none⟩)].toArray w fun e w' => ∃ v, e = .returned v ∧ v = .int .i64 r0 ∧ Hp w0 ps (obj_store_Store g0_ gx_ a0 :: fs) w' := by
 refine enter [.pointer (some ⟨g0_, 0, none⟩)] 8 Try.func20 fun Q a NP RET NRM F => ?_
 replace NP : ∀ c a w, ¬ Q (.panic c) a w := fun c a w h => by rcases NP c a w h with h | ⟨w, v, h, _⟩ <;> cases h
 unfold store_Store_Gen_f at h
 refine rg ?_
 refine as_ F (v := .int .i64 0) rfl fun a F => ?_
 refine rgend ?_
 refine rg ?_
 refine mv F rfl fun a F => ?_
 refine qw F (r_nc (F.t 3 rfl)) fun a F => ?_
 refine qw F (r_fa (off := 1) (F.t 4 rfl) fa73_1) fun a F => ?_
 refine qw F (r_fa (off := 0) (F.t 5 rfl) fa32_0) fun a F => ?_
 obtain ⟨A1, c2, A3, c4, A5, c6, H⟩ := Hp.openO_store_Store (H)
 refine qw F (r_ld (F.t 6 rfl) (cel_cell (o := 1) (H.cell 0 rfl) rfl) one2) fun a F => ?_
 refine as_ F rfl fun a F => ?_
 refine rgend ?_
 replace F := F.only [2] (l' := [(2, .int .i64 a0.now.Gen)]) rfl
 refine wp_ret ?_
 replace H := Hp.closeO_store_Store (x := a0) (H) 0 rfl 1 rfl
 try dsimp only at h
 obtain rfl := Option.some.inj h
 exact RET _ _ (ret1 F rfl rfl ⟨_, rfl, rfl, H.px1.px0⟩)
def store_Store_State_f (a0 : store_Store) : Option (List Int) :=
 ((slices_Clone_f a0.now.State).bind fun x7 => some x7)
set_option maxHeartbeats 4000000 in
set_option maxRecDepth 20000 in
theorem store_Store_State_ok {w0 w : World} {ps : List PF} {fs : List SF} {a0 : store_Store} {g0_ : Nat} {gx_ : Nat} {r0 : List Int} (H : Hp w0 ps (obj_store_Store g0_ gx_ a0 :: fs) w) (h : store_Store_State_f a0 = some r0) :
  Calls Try.prog 17 [.pointer (some ⟨g0_, 0, none⟩)].toArray w fun e w' => ∃ v, e = .returned v ∧ ∃ (A0 : Option Addr) (c0 : Nat), v = .slice A0 r0.length c0 ∧ Hp w0 ps (own kByte 5 A0 c0 r0 :: obj_store_Store g0_ gx_ a0 :: fs) w' := by
 refine enter [.pointer (some ⟨g0_, 0, none⟩)] 9 Try.func17 fun Q a NP RET NRM F => ?_
 replace NP : ∀ c a w, ¬ Q (.panic c) a w := fun c a w h => by rcases NP c a w h with h | ⟨w, v, h, _⟩ <;> cases h
 unfold store_Store_State_f at h
 refine rg ?_
 refine as_ F (v := .slice none 0 0) rfl fun a F => ?_
 refine rgend ?_
 refine rg ?_
 refine mv F rfl fun a F => ?_
 refine qw F (r_nc (F.t 3 rfl)) fun a F => ?_
 refine qw F (r_fa (off := 1) (F.t 4 rfl) fa73_1) fun a F => ?_
 refine qw F (r_fa (off := 1) (F.t 5 rfl) fa32_1) fun a F => ?_
 obtain ⟨A1, c2, A3, c4, A5, c6, H⟩ := Hp.openO_store_Store (H)
 refine qw F (r_ld (F.t 6 rfl) (cel_cell (o := 2) (H.cell 0 rfl) rfl) one29) fun a F => ?_
 obtain ⟨x7, e8, h⟩ := Option.bind_eq_some_iff.1 h
 try dsimp only at h
 refine ls (call F Try.func39 (slices_Clone_ok (H.p0) e8) rfl rfl fun v w hR a F => ?_)
 obtain ⟨A9, c10, rfl, H⟩ := hR
 refine as_ F rfl fun a F => ?_
 refine rgend ?_
 replace F := F.only [2] (l' := [(2, .slice A9 x7.length c10)]) rfl
 refine wp_ret ?_
 replace H := Hp.closeO_store_Store (x := a0) (H.f2.f2) 0 rfl 1 rfl
 try dsimp only at h
 obtain rfl := Option.some.inj h
 exact RET _ _ (ret1 F rfl rfl ⟨_, rfl, A9, c10, rfl, H.px1.px0.f1⟩)
def store_Store_Entries_b1 (a0 : store_Store) : ((List (List Int)) × Int) → Option ((List (List Int)) × Int ⊕ List (List Int))
 | (x38, x41) => (if x41 < (a0.now.More.length : Int) then (if 0 ≤ x41 ∧ x41 < (a0.now.More.length : Int) then ((slices_Clone_f ((a0.now.More.getD (x41 : Int).toNat []))).bind fun x55 => (if (x38.length + 1) * 24 ≤ 140737488355328 then some (.inl ((x38 ++ ([x55])), IntKind.i64.wrap (x41 + 1))) else none)) else none) else some (.inr x38))
def store_Store_Entries_b0 (a0 : store_Store) : ((List (List Int)) × Int) → Option ((List (List Int)) × Int ⊕ List (List Int))
 | (x11, x14) => (if x14 < (a0.now.Kept.length : Int) then (if 0 ≤ x14 ∧ x14 < (a0.now.Kept.length : Int) then ((slices_Clone_f ((a0.now.Kept.getD (x14 : Int).toNat []))).bind fun x26 => (if (x11.length + 1) * 24 ≤ 140737488355328 then some (.inl ((x11 ++ ([x26])), IntKind.i64.wrap (x14 + 1))) else none)) else none) else some (.inr x11))
def store_Store_Entries_f (a0 : store_Store) : Option (List (List Int)) :=
 ((((lp (store_Store_Entries_b0 a0) ([], 0)).bind fun x15 => some x15) : Option (List (List Int))).bind fun x7 => ((((lp (store_Store_Entries_b1 a0) ([], 0)).bind fun x42 => some x42) : Option (List (List Int))).bind fun x34 => (if (x7.length + x34.length) * 24 ≤ 140737488355328 then some (x7 ++ x34) else none)))
set_option maxHeartbeats 4000000 in
set_option maxRecDepth 20000 in
theorem store_Store_Entries_ok {w0 w : World} {ps : List PF} {fs : List SF} {a0 : store_Store} {g0_ : Nat} {gx_ : Nat} {r0 : List (List Int)} (H : Hp w0 ps (obj_store_Store g0_ gx_ a0 :: fs) w) (h : store_Store_Entries_f a0 = some r0) :
  Calls Try.prog 15 [.pointer (some ⟨g0_, 0, none⟩)].toArray w fun e w' => ∃ v, e = .returned v ∧ ∃ (A0 : Option Addr) (c0 : Nat), v = .slice A0 r0.length c0 ∧ Hp w0 ps (own (kSlice kByte) 29 A0 c0 r0 :: obj_store_Store g0_ gx_ a0 :: fs) w' := by
 refine enter [.pointer (some ⟨g0_, 0, none⟩)] 16 Try.func15 fun Q a NP RET NRM F => ?_
 replace NP : ∀ c a w, ¬ Q (.panic c) a w := fun c a w h => by rcases NP c a w h with h | ⟨w, v, h, _⟩ <;> cases h
 unfold store_Store_Entries_f at h
 refine rg ?_
 refine as_ F (v := .slice none 0 0) rfl fun a F => ?_
 refine rgend ?_
 refine wp_seq ?_
 obtain ⟨A1, c2, A3, c4, A5, c6, H⟩ := Hp.openO_store_Store (H)
 replace H := H.drew
 have HS := H.fx1
 refine dr (fun w => Hp w0 (rd kByte A1 c2 a0.now.State :: rd (kSlice kByte) A3 c4 a0.now.Kept :: ps) (cel g0_ [.pointer (some ⟨gx_, 0, none⟩), .int .i64 a0.now.Gen, .slice A1 a0.now.State.length c2, .slice A3 a0.now.Kept.length c4, .slice A5 a0.now.More.length c6, .bool a0.has_, .int .i64 a0.from_, .bool a0.begun, .bool a0.broken] 73 :: fs) w) _ (by kernel_rfl) ?_ (n := 14)
 refine dq 0 F rfl (by kernel_rfl) NP HS (fun w S => (r_mv (F.t 0 rfl))) fun a F => ?_
 refine dq 1 F rfl (by kernel_rfl) NP HS (fun w S => (r_nc (F.t 3 rfl))) fun a F => ?_
 refine dq 2 F rfl (by kernel_rfl) NP HS (fun w S => (r_fa (off := 1) (F.t 4 rfl) fa73_1)) fun a F => ?_
 refine dq 3 F rfl (by kernel_rfl) NP HS (fun w S => (r_fa (off := 2) (F.t 5 rfl) fa32_2)) fun a F => ?_
 refine dq 4 F rfl (by kernel_rfl) NP HS (fun w S => (r_ld (F.t 6 rfl) (cel_cell (o := 3) (S.cell 0 rfl) rfl) one30)) fun a F => ?_
 refine dq 6 F rfl (by kernel_rfl) NP HS (fun w S => (r_mv (F.t 0 rfl))) fun a F => ?_
 refine dq 7 F rfl (by kernel_rfl) NP HS (fun w S => (r_nc (F.t 9 rfl))) fun a F => ?_
 refine dq 8 F rfl (by kernel_rfl) NP HS (fun w S => (r_fa (off := 1) (F.t 10 rfl) fa73_1)) fun a F => ?_
 refine dq 9 F rfl (by kernel_rfl) NP HS (fun w S => (r_fa (off := 3) (F.t 11 rfl) fa32_3)) fun a F => ?_
 refine dq 10 F rfl (by kernel_rfl) NP HS (fun w S => (r_ld (F.t 12 rfl) (cel_cell (o := 4) (S.cell 0 rfl) rfl) one30)) fun a F => ?_
 obtain ⟨o_9, k_9, h⟩ := Option.bind_eq_some_iff.1 h
 refine d1 5 rfl (by kernel_rfl) (call F Try.func38 (R := fun v w => ∃ (x7 : List (List Int)), x7 = o_9 ∧ ∃ (A8 : Option Addr) (c9 : Nat), v = .slice A8 x7.length c9 ∧ Hp w0 (rd (kSlice kByte) A3 c4 a0.now.Kept :: rd kByte A1 c2 a0.now.State :: ps) (own (kSlice kByte) 29 A8 c9 x7 :: own (kSlice kByte) 29 A5 c6 a0.now.More :: cel g0_ [.pointer (some ⟨gx_, 0, none⟩), .int .i64 a0.now.Gen, .slice A1 a0.now.State.length c2, .slice A3 a0.now.Kept.length c4, .slice A5 a0.now.More.length c6, .bool a0.has_, .int .i64 a0.from_, .bool a0.begun, .bool a0.broken] 73 :: fs) w) (args := [.slice A3 a0.now.Kept.length c4]) (cap := []) ?_ rfl rfl ?_)
 ·refine enter [.slice A3 a0.now.Kept.length c4] 19 Try.func38 fun Q a NP RET NRM F => ?_
  replace NP : ∀ c a w, ¬ Q (.panic c) a w := fun c a w h => by rcases NP c a w h with h | ⟨w, v, h, _⟩ <;> cases h
  refine rg ?_
  refine as_ F (v := .slice none 0 0) rfl fun a F => ?_
  refine rgend ?_
  refine rg ?_
  refine as_ F (v := .slice none 0 0) rfl fun a F => ?_
  refine rgend ?_
  refine wp_seq ?_
  refine rg ?_
  refine mv F rfl fun a F => ?_
  refine qw F (r_len (F.t 6 rfl) Try.underlying30) fun a F => ?_
  refine mv F (v := .int .i64 0) rfl fun a F => ?_
  refine rgend ?_
  replace H := H.nilOwn (kSlice kByte) 29
  obtain ⟨o_17, k_17, k_9⟩ := Option.bind_eq_some_iff.1 k_9
  refine cut (fun a w => ∃ (x15 : List (List Int)), x15 = o_17 ∧ ∃ (A16 : Option Addr) (c17 : Nat), Fr 19 [] [(3, .slice A16 x15.length c17)] a ∧ Hp w0 (rd (kSlice kByte) A3 c4 a0.now.Kept :: rd kByte A1 c2 a0.now.State :: ps) (own (kSlice kByte) 29 A16 c17 x15 :: own (kSlice kByte) 29 A5 c6 a0.now.More :: cel g0_ [.pointer (some ⟨gx_, 0, none⟩), .int .i64 a0.now.Gen, .slice A1 a0.now.State.length c2, .slice A3 a0.now.Kept.length c4, .slice A5 a0.now.More.length c6, .bool a0.has_, .int .i64 a0.from_, .bool a0.begun, .bool a0.broken] 73 :: fs) w) (wp_block ?_) ?_
  ·refine wloop (store_Store_Entries_b0 a0) (fun (s : (List (List Int)) × Int) a w => ∃ (A12 : Option Addr) (c13 : Nat), Fr 19 [] [(3, .slice A12 s.1.length c13), (6, .slice A3 a0.now.Kept.length c4), (7, .int .i64 (a0.now.Kept.length : Int)), (8, .int .i64 s.2)] a ∧ Hp w0 (rd (kSlice kByte) A3 c4 a0.now.Kept :: rd kByte A1 c2 a0.now.State :: ps) (own (kSlice kByte) 29 A12 c13 s.1 :: own (kSlice kByte) 29 A5 c6 a0.now.More :: cel g0_ [.pointer (some ⟨gx_, 0, none⟩), .int .i64 a0.now.Gen, .slice A1 a0.now.State.length c2, .slice A3 a0.now.Kept.length c4, .slice A5 a0.now.More.length c6, .bool a0.has_, .int .i64 a0.from_, .bool a0.begun, .bool a0.broken] 73 :: fs) w) k_17 ⟨none, 0, F.only [3, 6, 7, 8] rfl, H.p0.p2.px2.px2.f1.f2.f2⟩ ?_
   rintro ⟨x11, x14⟩ a w q_17 j_17 u_17 ⟨A12, c13, F, H⟩
   unfold store_Store_Entries_b0 at j_17
   try dsimp only at j_17 F H
   refine rg ?_
   refine qw F (r_lt (F.t 8 rfl) (F.t 7 rfl)) fun a F => ?_
   refine rgend ?_
   refine wp_seq ?_
   by_cases c19 : x14 < (a0.now.Kept.length : Int)
   ·rw [if_pos c19] at j_17
    rw [decide_eq_true c19] at F
    refine wp_cond_true (F.ev rfl) ?_
    refine wp_skip ?_
    refine wp_seq ?_
    refine wp_block ?_
    refine rg ?_
    obtain ⟨c20, j_17⟩ := guardO j_17
    obtain ⟨g21, o22, s23, hr, H⟩ := H.ix [] 0 rfl (F.t 6 rfl) (F.t 8 rfl) Try.underlying30 sz29 (by decide) c20.1 c20.2
    obtain ⟨A24, c25, rfl, H⟩ := H.says_slice 1 rfl
    refine qw F (hr _ _ _ _ _ _) fun a F => ?_
    refine qw F (r_ld (F.t 10 rfl) (range_cell (j := 0) (H.range 1 rfl) rfl) one29) fun a F => ?_
    refine as_ F rfl fun a F => ?_
    refine rgend ?_
    refine wp_region_lit ?_
    refine mv F rfl fun a F => ?_
    refine mv F rfl fun a F => ?_
    obtain ⟨x26, e27, j_17⟩ := Option.bind_eq_some_iff.1 j_17
    try dsimp only at j_17
    refine ls (call F Try.func39 (slices_Clone_ok (H.p0) e27) rfl rfl fun v w hR a F => ?_)
    obtain ⟨A28, c29, rfl, H⟩ := hR
    replace H := (H).freeze
    refine ls (lbs F H (e := 29) (vs := [(0, .slice A28 x26.length c29)]) (cs := [.slice A28 x26.length c29]) rfl (fun w => by kernel_rfl) fun g30 w a H F => ?_)
    obtain ⟨c31, j_17⟩ := guardO j_17
    obtain ⟨A32, c33, _, hr, H⟩ := Hp.appendCelL (kd := (kSlice kByte)) (xs := x11) (ys := [x26]) (H.f3.f3.f2.f3) (F.t 12 rfl) (F.t 15 rfl) Try.underlying30 ti29 rfl (by decide) (by decide) rfl ((SayL.cons (kd := (kSlice kByte)) (c1 := [.slice A28 x26.length c29]) (y := x26) (fun Z hp => ⟨A28, c29, rfl, pat hp 0 rfl⟩) SayL.nil)) c31
    refine qw F (hr _ _ _ _ _) fun a F => ?_
    refine as_ F rfl fun a F => ?_
    refine wpList_nil ?_
    replace F := F.only [3, 6, 7, 8] (l' := [(3, .slice A32 ((x11 ++ ([x26]))).length c33), (6, .slice A3 a0.now.Kept.length c4), (7, .int .i64 (a0.now.Kept.length : Int)), (8, .int .i64 x14)]) rfl
    refine wp_region_lit ?_
    refine qw F (r_add (F.t 8 rfl) (F.ev (x := .const (.int .i64 1)) rfl)) fun a F => ?_
    refine mv F rfl fun a F => ?_
    refine wpList_nil ?_
    try dsimp only at j_17
    obtain rfl := Option.some.inj j_17
    exact ⟨_, rfl, A32, c33, F.only [3, 6, 7, 8] rfl, H.px3.px2.px1.px0⟩
   ·rw [if_neg c19] at j_17
    rw [decide_eq_false c19] at F
    refine wp_cond_false (F.ev rfl) ?_
    refine wp_exit ?_
    try dsimp only at j_17
    obtain rfl := Option.some.inj j_17
    obtain rfl := u_17 _ rfl
    repeat (with_reducible refine exT ?_)
    with_reducible refine exB ?_
    exact ⟨_, rfl, A12, c13, F.only [3] rfl, H⟩
  ·rintro a w ⟨x15, rfl, A16, c17, F, H⟩
   try dsimp only at k_9 F H
   refine rg ?_
   refine mv F rfl fun a F => ?_
   refine as_ F rfl fun a F => ?_
   refine rgend ?_
   refine wp_ret ?_
   try dsimp only at k_9
   obtain rfl := Option.some.inj k_9
   exact RET _ _ (ret1 F rfl rfl ⟨_, rfl, _, rfl, A16, c17, rfl, H⟩)
 ·rintro v w ⟨x7, rfl, A8, c9, rfl, H⟩ a F
  try dsimp only at h F H
  have HS := H.fx1.fx0
  refine kg _ HS (fun w S => S.p0.p2.px2.px2) ?_
  obtain ⟨o_36, k_36, h⟩ := Option.bind_eq_some_iff.1 h
  refine d1 11 rfl (by kernel_rfl) (call F Try.func38 (R := fun v w => ∃ (x34 : List (List Int)), x34 = o_36 ∧ ∃ (A35 : Option Addr) (c36 : Nat), v = .slice A35 x34.length c36 ∧ Hp w0 (rd (kSlice kByte) A3 c4 a0.now.Kept :: rd kByte A1 c2 a0.now.State :: ps) (own (kSlice kByte) 29 A35 c36 x34 :: own (kSlice kByte) 29 A8 c9 x7 :: own (kSlice kByte) 29 A5 c6 a0.now.More :: cel g0_ [.pointer (some ⟨gx_, 0, none⟩), .int .i64 a0.now.Gen, .slice A1 a0.now.State.length c2, .slice A3 a0.now.Kept.length c4, .slice A5 a0.now.More.length c6, .bool a0.has_, .int .i64 a0.from_, .bool a0.begun, .bool a0.broken] 73 :: fs) w) (args := [.slice A5 a0.now.More.length c6]) (cap := []) ?_ rfl rfl ?_)
  ·refine enter [.slice A5 a0.now.More.length c6] 19 Try.func38 fun Q a NP RET NRM F => ?_
   replace NP : ∀ c a w, ¬ Q (.panic c) a w := fun c a w h => by rcases NP c a w h with h | ⟨w, v, h, _⟩ <;> cases h
   refine rg ?_
   refine as_ F (v := .slice none 0 0) rfl fun a F => ?_
   refine rgend ?_
   refine rg ?_
   refine as_ F (v := .slice none 0 0) rfl fun a F => ?_
   refine rgend ?_
   refine wp_seq ?_
   refine rg ?_
   refine mv F rfl fun a F => ?_
   refine qw F (r_len (F.t 6 rfl) Try.underlying30) fun a F => ?_
   refine mv F (v := .int .i64 0) rfl fun a F => ?_
   refine rgend ?_
   replace H := H.nilOwn (kSlice kByte) 29
   obtain ⟨o_44, k_44, k_36⟩ := Option.bind_eq_some_iff.1 k_36
   refine cut (fun a w => ∃ (x42 : List (List Int)), x42 = o_44 ∧ ∃ (A43 : Option Addr) (c44 : Nat), Fr 19 [] [(3, .slice A43 x42.length c44)] a ∧ Hp w0 (rd (kSlice kByte) A3 c4 a0.now.Kept :: rd kByte A1 c2 a0.now.State :: ps) (own (kSlice kByte) 29 A43 c44 x42 :: own (kSlice kByte) 29 A8 c9 x7 :: own (kSlice kByte) 29 A5 c6 a0.now.More :: cel g0_ [.pointer (some ⟨gx_, 0, none⟩), .int .i64 a0.now.Gen, .slice A1 a0.now.State.length c2, .slice A3 a0.now.Kept.length c4, .slice A5 a0.now.More.length c6, .bool a0.has_, .int .i64 a0.from_, .bool a0.begun, .bool a0.broken] 73 :: fs) w) (wp_block ?_) ?_
   ·refine wloop (store_Store_Entries_b1 a0) (fun (s : (List (List Int)) × Int) a w => ∃ (A39 : Option Addr) (c40 : Nat), Fr 19 [] [(3, .slice A39 s.1.length c40), (6, .slice A5 a0.now.More.length c6), (7, .int .i64 (a0.now.More.length : Int)), (8, .int .i64 s.2)] a ∧ Hp w0 (rd (kSlice kByte) A3 c4 a0.now.Kept :: rd kByte A1 c2 a0.now.State :: ps) (own (kSlice kByte) 29 A39 c40 s.1 :: own (kSlice kByte) 29 A5 c6 a0.now.More :: own (kSlice kByte) 29 A8 c9 x7 :: cel g0_ [.pointer (some ⟨gx_, 0, none⟩), .int .i64 a0.now.Gen, .slice A1 a0.now.State.length c2, .slice A3 a0.now.Kept.length c4, .slice A5 a0.now.More.length c6, .bool a0.has_, .int .i64 a0.from_, .bool a0.begun, .bool a0.broken] 73 :: fs) w) k_44 ⟨none, 0, F.only [3, 6, 7, 8] rfl, H.f3.f2.f3.f3⟩ ?_
    rintro ⟨x38, x41⟩ a w q_44 j_44 u_44 ⟨A39, c40, F, H⟩
    unfold store_Store_Entries_b1 at j_44
    try dsimp only at j_44 F H
    refine rg ?_
    refine qw F (r_lt (F.t 8 rfl) (F.t 7 rfl)) fun a F => ?_
    refine rgend ?_
    refine wp_seq ?_
    by_cases c46 : x41 < (a0.now.More.length : Int)
    ·rw [if_pos c46] at j_44
     rw [decide_eq_true c46] at F
     refine wp_cond_true (F.ev rfl) ?_
     refine wp_skip ?_
     refine wp_seq ?_
     refine wp_block ?_
     refine rg ?_
     obtain ⟨c47, j_44⟩ := guardO j_44
     obtain ⟨g48, s49, hA, hq51, hl50, H⟩ := H.ixOwn2 [] 1 rfl (F.t 6 rfl) (F.t 8 rfl) Try.underlying30 sz29 (by decide) c47.1 c47.2
     have hA52 := hA
     obtain ⟨A53, c54, rfl, H⟩ := H.says_slice 0 rfl
     refine qw F (hq51 _ _ _ _ _ _) fun a F => ?_
     refine qw F (r_ld (F.t 10 rfl) (range_cell (j := 0) hl50 rfl) one29) fun a F => ?_
     refine as_ F rfl fun a F => ?_
     refine rgend ?_
     refine wp_region_lit ?_
     refine mv F rfl fun a F => ?_
     refine mv F rfl fun a F => ?_
     obtain ⟨x55, e56, j_44⟩ := Option.bind_eq_some_iff.1 j_44
     try dsimp only at j_44
     refine ls (call F Try.func39 (slices_Clone_ok (H.p0) e56) rfl rfl fun v w hR a F => ?_)
     obtain ⟨A57, c58, rfl, H⟩ := hR
     replace H := (H).freeze
     refine ls (lbs F H (e := 29) (vs := [(0, .slice A57 x55.length c58)]) (cs := [.slice A57 x55.length c58]) rfl (fun w => by kernel_rfl) fun g59 w a H F => ?_)
     obtain ⟨c60, j_44⟩ := guardO j_44
     obtain ⟨A61, c62, _, hr, H⟩ := Hp.appendCelL (kd := (kSlice kByte)) (xs := x38) (ys := [x55]) (H.f4.f4.f4.f3.f4) (F.t 12 rfl) (F.t 15 rfl) Try.underlying30 ti29 rfl (by decide) (by decide) rfl ((SayL.cons (kd := (kSlice kByte)) (c1 := [.slice A57 x55.length c58]) (y := x55) (fun Z hp => ⟨A57, c58, rfl, pat hp 0 rfl⟩) SayL.nil)) c60
     refine qw F (hr _ _ _ _ _) fun a F => ?_
     refine as_ F rfl fun a F => ?_
     refine wpList_nil ?_
     replace F := F.only [3, 6, 7, 8] (l' := [(3, .slice A61 ((x38 ++ ([x55]))).length c62), (6, .slice A5 a0.now.More.length c6), (7, .int .i64 (a0.now.More.length : Int)), (8, .int .i64 x41)]) rfl
     refine wp_region_lit ?_
     refine qw F (r_add (F.t 8 rfl) (F.ev (x := .const (.int .i64 1)) rfl)) fun a F => ?_
     refine mv F rfl fun a F => ?_
     refine wpList_nil ?_
     try dsimp only at j_44
     obtain rfl := Option.some.inj j_44
     exact ⟨_, rfl, A61, c62, F.only [3, 6, 7, 8] rfl, H.px2.px1.px0⟩
    ·rw [if_neg c46] at j_44
     rw [decide_eq_false c46] at F
     refine wp_cond_false (F.ev rfl) ?_
     refine wp_exit ?_
     try dsimp only at j_44
     obtain rfl := Option.some.inj j_44
     obtain rfl := u_44 _ rfl
     repeat (with_reducible refine exT ?_)
     with_reducible refine exB ?_
     exact ⟨_, rfl, A39, c40, F.only [3] rfl, H.f3.f2.f3.f3⟩
   ·rintro a w ⟨x42, rfl, A43, c44, F, H⟩
    try dsimp only at k_36 F H
    refine rg ?_
    refine mv F rfl fun a F => ?_
    refine as_ F rfl fun a F => ?_
    refine rgend ?_
    refine wp_ret ?_
    try dsimp only at k_36
    obtain rfl := Option.some.inj k_36
    exact RET _ _ (ret1 F rfl rfl ⟨_, rfl, _, rfl, A43, c44, rfl, H⟩)
  ·rintro v w ⟨x34, rfl, A35, c36, rfl, H⟩ a F
   try dsimp only at h F H
   have HS := H.fx2.fx1.fx0
   refine kg _ HS (fun w S => S) ?_
   obtain ⟨c63, h⟩ := guardO h
   replace H := (H).freeze
   obtain ⟨A64, c65, _, hr, H⟩ := Hp.appendRd (kd := (kSlice kByte)) (xs := x7) (ys := x34) (H) 0 rfl (F.t 8 rfl) (F.t 14 rfl) Try.underlying30 ti29 rfl (by decide) (by decide) c63
   refine d1 12 rfl (by kernel_rfl) (qv F (hr _ _ _ _ _) fun a F => ?_)
   have HS := H.fx1.fx0
   refine kg _ HS (fun w S => S.px0) ?_
   refine dq 13 F rfl (by kernel_rfl) NP HS (fun w S => (r_as (F.t 15 rfl))) fun a F => ?_
   refine ddone (by kernel_rfl) ?_
   replace F := F.only [2] (l' := [(2, .slice A64 (x7 ++ x34).length c65)]) rfl
   refine wp_ret ?_
   replace H := Hp.closeO_store_Store (x := a0) (H.f1.f2) 2 rfl 1 rfl
   try dsimp only at h
   obtain rfl := Option.some.inj h
   exact RET _ _ (ret1 F rfl rfl ⟨_, rfl, A64, c65, rfl, H.px2.px1.px0.f1⟩)
def store_Store_other_f (a0 : store_Store) (a1 : disk_Disk) : Option (Int) :=
 (((if a0.has_ = true then some ((decide (a0.from_ = 0))) else some false) : Option (Bool)).bind fun x1 => (if x1 = true then ((((disk_Disk_Sectors_f a1).bind fun x19 => some ((IntKind.i64.wrap (x19.tdiv 2)))) : Option (Int)).bind fun x11 => some x11) else some 0))
set_option maxHeartbeats 4000000 in
set_option maxRecDepth 20000 in
theorem store_Store_other_ok {w0 w : World} {ps : List PF} {fs : List SF} {a0 : store_Store} {g0_ : Nat} {a1 : disk_Disk} {g1_ : Nat} {r0 : Int} (H : Hp w0 ps (obj_store_Store g0_ g1_ a0 :: obj_disk_Disk g1_ a1 :: fs) w) (h : store_Store_other_f a0 a1 = some r0) :
  Calls Try.prog 43 [.pointer (some ⟨g0_, 0, none⟩)].toArray w fun e w' => ∃ v, e = .returned v ∧ v = .int .i64 r0 ∧ Hp w0 ps (obj_store_Store g0_ g1_ a0 :: obj_disk_Disk g1_ a1 :: fs) w' := by
 refine enter [.pointer (some ⟨g0_, 0, none⟩)] 16 Try.func43 fun Q a NP RET NRM F => ?_
 replace NP : ∀ c a w, ¬ Q (.panic c) a w := fun c a w h => by rcases NP c a w h with h | ⟨w, v, h, _⟩ <;> cases h
 unfold store_Store_other_f at h
 refine rg ?_
 refine as_ F (v := .int .i64 0) rfl fun a F => ?_
 refine rgend ?_
 refine wp_seq ?_
 refine wp_seq ?_
 obtain ⟨o_1, k_1, h⟩ := Option.bind_eq_some_iff.1 h
 refine cut (fun a w => ∃ (x1 : Bool), x1 = o_1 ∧ Fr 16 [] [(0, .pointer (some ⟨g0_, 0, none⟩)), (13, .bool x1)] a ∧ Hp w0 ps (obj_disk_Disk g1_ a1 :: obj_store_Store g0_ g1_ a0 :: fs) w) ?_ ?_
 ·skip
  refine wp_region_lit ?_
  refine mv F rfl fun a F => ?_
  refine qw F (r_nc (F.t 3 rfl)) fun a F => ?_
  refine qw F (r_fa (off := 5) (F.t 4 rfl) fa73_2) fun a F => ?_
  obtain ⟨A3, c4, A5, c6, A7, c8, H⟩ := Hp.openO_store_Store (H)
  refine qw F (r_ld (F.t 5 rfl) (cel_cell (o := 5) (H.cell 0 rfl) rfl) one4) fun a F => ?_
  refine mv F rfl fun a F => ?_
  by_cases c9 : a0.has_ = true
  ·rw [if_pos c9] at k_1
   rw [c9] at F
   refine mv F rfl fun a F => ?_
   refine qw F (r_nc (F.t 8 rfl)) fun a F => ?_
   refine qw F (r_fa (off := 6) (F.t 9 rfl) fa73_3) fun a F => ?_
   refine qw F (r_ld (F.t 10 rfl) (cel_cell (o := 6) (H.cell 0 rfl) rfl) one3) fun a F => ?_
   refine qw F (r_eq (F.t 11 rfl) (F.ev (x := .const (.int .i64 0)) rfl)) fun a F => ?_
   refine qw F (r_pickT (F.t 7 rfl) (F.t 12 rfl)) fun a F => ?_
   refine wpList_nil ?_
   replace F := F.only [13, 0] (l' := [(13, .bool (decide (a0.from_ = 0))), (0, .pointer (some ⟨g0_, 0, none⟩))]) rfl
   replace H := Hp.closeO_store_Store (x := a0) (H) 0 rfl 1 rfl
   try dsimp only at k_1
   obtain rfl := Option.some.inj k_1
   exact ⟨_, rfl, F.only [0, 13] rfl, H.px1.px0.f1⟩
  ·rw [if_neg c9] at k_1
   rw [Bool.eq_false_iff.2 c9] at F
   refine of_ F fun a F => ?_
   refine of_ F fun a F => ?_
   refine of_ F fun a F => ?_
   refine of_ F fun a F => ?_
   refine of_ F fun a F => ?_
   refine qw F (r_pickF (F.t 7 rfl) (F.ev (x := .const (.bool false)) rfl)) fun a F => ?_
   refine wpList_nil ?_
   replace F := F.only [13, 0] (l' := [(13, .bool false), (0, .pointer (some ⟨g0_, 0, none⟩))]) rfl
   replace H := Hp.closeO_store_Store (x := a0) (H) 0 rfl 1 rfl
   try dsimp only at k_1
   obtain rfl := Option.some.inj k_1
   exact ⟨_, rfl, F.only [0, 13] rfl, H.px1.px0.f1⟩
 ·rintro a w ⟨x1, rfl, F, H⟩
  try dsimp only at h F H
  by_cases c10 : x1 = true
  ·rw [if_pos c10] at h
   rw [c10] at F
   refine wp_cond_true (F.ev rfl) ?_
   refine rg ?_
   refine mv F rfl fun a F => ?_
   obtain ⟨o_11, k_11, h⟩ := Option.bind_eq_some_iff.1 h
   refine ls (call F Try.func36 (R := fun v w => ∃ (x11 : Int), x11 = o_11 ∧ v = .int .i64 x11 ∧ Hp w0 ps (obj_disk_Disk g1_ a1 :: obj_store_Store g0_ g1_ a0 :: fs) w) (args := [.pointer (some ⟨g0_, 0, none⟩)]) (cap := []) ?_ rfl rfl ?_)
   ·refine enter [.pointer (some ⟨g0_, 0, none⟩)] 9 Try.func36 fun Q a NP RET NRM F => ?_
    replace NP : ∀ c a w, ¬ Q (.panic c) a w := fun c a w h => by rcases NP c a w h with h | ⟨w, v, h, _⟩ <;> cases h
    refine rg ?_
    refine as_ F (v := .int .i64 0) rfl fun a F => ?_
    refine rgend ?_
    refine rg ?_
    refine mv F rfl fun a F => ?_
    refine qw F (r_nc (F.t 3 rfl)) fun a F => ?_
    refine qw F (r_fa (off := 0) (F.t 4 rfl) fa73_0) fun a F => ?_
    obtain ⟨A13, c14, A15, c16, A17, c18, H⟩ := Hp.openO_store_Store (H.f1)
    refine qw F (r_ld (F.t 5 rfl) (cel_cell (o := 0) (H.cell 0 rfl) rfl) one24) fun a F => ?_
    obtain ⟨x19, e20, k_11⟩ := Option.bind_eq_some_iff.1 k_11
    try dsimp only at k_11
    refine ls (call F Try.func76 (disk_Disk_Sectors_ok (H.f1.f1.f2) e20) rfl rfl fun v w hR a F => ?_)
    obtain ⟨rfl, H⟩ := hR
    refine qw F (r_quo (F.t 7 rfl) (F.ev (x := .const (.int .i64 2)) rfl) (by decide)) fun a F => ?_
    refine as_ F rfl fun a F => ?_
    refine rgend ?_
    replace F := F.only [2] (l' := [(2, .int .i64 (IntKind.i64.wrap (x19.tdiv 2)))]) rfl
    refine wp_ret ?_
    replace H := Hp.closeO_store_Store (x := a0) (H.f2.f2) 0 rfl 1 rfl
    try dsimp only at k_11
    obtain rfl := Option.some.inj k_11
    exact RET _ _ (ret1 F rfl rfl ⟨_, rfl, _, rfl, rfl, H.px1.px0.f1⟩)
   ·rintro v w ⟨x11, rfl, rfl, H⟩ a F
    try dsimp only at h F H
    refine as_ F rfl fun a F => ?_
    refine rgend ?_
    replace F := F.only [2] (l' := [(2, .int .i64 x11)]) rfl
    refine wp_ret ?_
    try dsimp only at h
    obtain rfl := Option.some.inj h
    exact RET _ _ (ret1 F rfl rfl ⟨_, rfl, rfl, H.f1⟩)
  ·rw [if_neg c10] at h
   rw [Bool.eq_false_iff.2 c10] at F
   refine wp_cond_false (F.ev rfl) ?_
   refine wp_skip ?_
   refine rg ?_
   refine as_ F (v := .int .i64 0) rfl fun a F => ?_
   refine rgend ?_
   refine wp_ret ?_
   try dsimp only at h
   obtain rfl := Option.some.inj h
   exact RET _ _ (ret1 F rfl rfl ⟨_, rfl, rfl, H.f1⟩)
def store_may_f (a0 : List Int) (a1 : List (List Int)) : Option (Bool) :=
 ((disk_New_f 0).bind fun x1 => match x1 with | none => none | some x3 => ((region_Lay_f x3 0 0 1 a0 a1).bind fun (x5, x6) => some ((decide (x5 ≠ 1)))))
set_option maxHeartbeats 4000000 in
set_option maxRecDepth 20000 in
theorem store_may_ok {w0 w : World} {ps : List PF} {fs : List SF} {a0 : List Int} {A0_ : Option Addr} {c0_ : Nat} {a1 : List (List Int)} {A1_ : Option Addr} {c1_ : Nat} {r0 : Bool} (H : Hp w0 (rd kByte A0_ c0_ a0 :: rd (kSlice kByte) A1_ c1_ a1 :: ps) fs w) (h : store_may_f a0 a1 = some r0) :
  Calls Try.prog 40 [.slice A0_ a0.length c0_, .slice A1_ a1.length c1_].toArray w fun e w' => ∃ v, e = .returned v ∧ v = .bool r0 ∧ Hp w0 ps fs w' := by
 refine enter [.slice A0_ a0.length c0_, .slice A1_ a1.length c1_] 10 Try.func40 fun Q a NP RET NRM F => ?_
 replace NP : ∀ c a w, ¬ Q (.panic c) a w := fun c a w h => by rcases NP c a w h with h | ⟨w, v, h, _⟩ <;> cases h
 unfold store_may_f at h
 refine rg ?_
 refine as_ F (v := .bool false) rfl fun a F => ?_
 refine rgend ?_
 refine rg ?_
 obtain ⟨x1, e2, h⟩ := Option.bind_eq_some_iff.1 h
 try dsimp only at h
 rcases x1 with _ | x3
 ·try dsimp only at h
  refine ls (call F Try.func11 (disk_New_ok (H) e2) rfl rfl fun v w hR a F => ?_)
  obtain ⟨rfl, H⟩ := hR
  refine mv F rfl fun a F => ?_
  refine mv F rfl fun a F => ?_
  cases h
 ·try dsimp only at h
  refine ls (call F Try.func11 (disk_New_ok (H) e2) rfl rfl fun v w hR a F => ?_)
  obtain ⟨g4, rfl, H⟩ := hR
  refine mv F rfl fun a F => ?_
  refine mv F rfl fun a F => ?_
  obtain ⟨⟨x5, x6⟩, e7, h⟩ := Option.bind_eq_some_iff.1 h
  try dsimp only at h
  refine ls (call F Try.func44 (region_Lay_ok (H.p1.p1) e7) rfl rfl fun v w hR a F => ?_)
  obtain ⟨rfl, H⟩ := hR
  refine qw F (r_ne (F.t 8 rfl) (F.ev (x := .const (.int .i64 1)) rfl)) fun a F => ?_
  refine as_ F rfl fun a F => ?_
  refine rgend ?_
  replace F := F.only [4] (l' := [(4, .bool (decide (x5 ≠ 1)))]) rfl
  refine wp_ret ?_
  try dsimp only at h
  obtain rfl := Option.some.inj h
  exact RET _ _ (ret1 F rfl rfl ⟨_, rfl, rfl, H.px1.px0.fx0⟩)
def store_Store_Begin_b0 (a2 : List (List Int)) : ((List (List Int)) × Int) → Option ((List (List Int)) × Int ⊕ List (List Int))
 | (x58, x61) => (if x61 < (a2.length : Int) then (if 0 ≤ x61 ∧ x61 < (a2.length : Int) then ((slices_Clone_f ((a2.getD (x61 : Int).toNat []))).bind fun x73 => (if (x58.length + 1) * 24 ≤ 140737488355328 then some (.inl ((x58 ++ ([x73])), IntKind.i64.wrap (x61 + 1))) else none)) else none) else some (.inr x58))
def store_Store_Begin_f (a0 : store_Store) (a1 : List Int) (a2 : List (List Int)) (a3 : disk_Disk) : Option (Int × store_Store × disk_Disk) :=
 (if a0.broken = true then some (43, a0, a3) else ((store_may_f a1 a2).bind fun x10 => (if x10 = true then ((((disk_Disk_Sectors_f a3).bind fun x15 => some ((IntKind.i64.wrap (x15.tdiv 2)))) : Option (Int)).bind fun x13 => ((region_Greatest_f a3 0 x13).bind fun x17 => ((((disk_Disk_Sectors_f a3).bind fun x21 => some ((IntKind.i64.wrap (x21.tdiv 2)))) : Option (Int)).bind fun x19 => ((((disk_Disk_Sectors_f a3).bind fun x25 => some ((IntKind.i64.wrap (x25.tdiv 2)))) : Option (Int)).bind fun x23 => ((region_Greatest_f a3 x19 x23).bind fun x27 => (if (max x17 x27) ≥ 281474976710656 then some ((5, (⟨a0.now, a0.has_, a0.from_, a0.begun, decide (5 ≠ 0)⟩ : store_Store), a3)) else ((store_Store_other_f a0 a3).bind fun x30 => ((((disk_Disk_Sectors_f a3).bind fun x40 => some ((IntKind.i64.wrap (x40.tdiv 2)))) : Option (Int)).bind fun x38 => ((region_Lay_f a3 x30 x38 (IntKind.i64.wrap ((max x17 x27) + 1)) a1 a2).bind fun (x42, x43) => (if x42 ≠ 0 then some ((x42, (⟨a0.now, a0.has_, a0.from_, a0.begun, decide (x42 ≠ 0)⟩ : store_Store), x43)) else ((disk_Disk_Sync_f x43).bind fun (x46, x47) => (if x46 ≠ 0 then some ((x46, (⟨a0.now, a0.has_, a0.from_, a0.begun, decide (x46 ≠ 0)⟩ : store_Store), x47)) else ((slices_Clone_f a1).bind fun x50 => ((((lp (store_Store_Begin_b0 a2) ([], 0)).bind fun x62 => some x62) : Option (List (List Int))).bind fun x54 => some ((0, (⟨⟨IntKind.i64.wrap ((max x17 x27) + 1), x50, x54, []⟩, true, x30, true, decide (0 ≠ 0)⟩ : store_Store), x47)))))))))))))))) else some (1, a0, a3))))
set_option maxHeartbeats 4000000 in
set_option maxRecDepth 20000 in
theorem store_Store_Begin_ok {w0 w : World} {ps : List PF} {fs : List SF} {a0 : store_Store} {g0_ : Nat} {a1 : List Int} {A1_ : Option Addr} {c1_ : Nat} {a2 : List (List Int)} {A2_ : Option Addr} {c2_ : Nat} {a3 : disk_Disk} {g3_ : Nat} {r0 : Int} {s0 : store_Store} {s3 : disk_Disk} (H : Hp w0 (rd kByte A1_ c1_ a1 :: rd (kSlice kByte) A2_ c2_ a2 :: ps) (obj_store_Store g0_ g3_ a0 :: obj_disk_Disk g3_ a3 :: fs) w) (h : store_Store_Begin_f a0 a1 a2 a3 = some (r0, s0, s3)) :
  Calls Try.prog 21 [.pointer (some ⟨g0_, 0, none⟩), .slice A1_ a1.length c1_, .slice A2_ a2.length c2_].toArray w fun e w' => ∃ v, e = .returned v ∧ v = .int .i64 r0 ∧ Hp w0 ps (obj_store_Store g0_ g3_ s0 :: obj_disk_Disk g3_ s3 :: fs) w' := by
 refine enterD [.pointer (some ⟨g0_, 0, none⟩), .slice A1_ a1.length c1_, .slice A2_ a2.length c2_] 86 Try.func21 fun Q a NP RET NRM F => ?_
 unfold store_Store_Begin_f at h
 refine rg ?_
 refine ls (lbox F H rfl (cs := [.pointer (some ⟨g0_, 0, none⟩)]) rfl fun g1 w a H F => ?_)
 refine ls (lal F H ti36 (cs := [.int .i64 0]) rfl fun g2 w a H F => ?_)
 refine rgend ?_
 refine wp_seq ?_
 refine wp_block ?_
 refine rg ?_
 refine qw F (r_ld (F.t 3 rfl) (cel_cell (o := 0) (H.cell 1 rfl) rfl) one27) fun a F => ?_
 refine qw F (r_nc (F.t 12 rfl)) fun a F => ?_
 refine qw F (r_fa (off := 8) (F.t 13 rfl) fa73_5) fun a F => ?_
 obtain ⟨A3, c4, A5, c6, A7, c8, H⟩ := Hp.openO_store_Store (H.f3.f2.f2.f3)
 refine qw F (r_ld (F.t 14 rfl) (cel_cell (o := 8) (H.cell 0 rfl) rfl) one4) fun a F => ?_
 refine as_ F rfl fun a F => ?_
 refine rgend ?_
 replace F := F.only [11, 6, 3, 1, 2] (l' := [(11, .bool a0.broken), (6, .pointer (some ⟨g2, 0, none⟩)), (3, .pointer (some ⟨g1, 0, none⟩)), (1, .slice A1_ a1.length c1_), (2, .slice A2_ a2.length c2_)]) rfl
 by_cases c9 : a0.broken = true
 ·rw [if_pos c9] at h
  rw [c9] at F
  refine wp_cond_true (F.ev rfl) ?_
  refine rg ?_
  obtain ⟨_, hr, H⟩ := Hp.store (t := 36) (o := 0) (n := 1) (vs := [.int .i64 43]) (cs' := [.int .i64 43]) (H.f4.f4.f3.f3.f4) (F.t 6 rfl) (F.ev (x := .const (.int .i64 43)) rfl) rfl sz36 rfl (Nat.le_of_ble_eq_true rfl) rfl rfl
  refine ls (qn F (.inl rfl) (hr _ _ _ _) fun a F => ?_)
  refine rgend ?_
  replace F := F.only [6] (l' := [(6, .pointer (some ⟨g2, 0, none⟩))]) rfl
  refine wp_ret ?_
  replace H := Hp.closeO_store_Store (x := a0) (H.f4.f4.f2.f4.f4) 0 rfl 1 rfl
  try dsimp only at h
  obtain ⟨rfl, hx_0⟩ := Prod.mk.inj (Option.some.inj h)
  obtain ⟨rfl, rfl⟩ := Prod.mk.inj hx_0
  exact RET _ _ (bpD (retC1 F rfl rfl (ldv1 (cel_cell (o := 0) (H.cell 1 rfl) rfl) one36) ⟨_, rfl, rfl, H.px3.px2.px1.px0.fx2.fx1⟩))
 ·rw [if_neg c9] at h
  rw [Bool.eq_false_iff.2 c9] at F
  refine wp_cond_false (F.ev rfl) ?_
  refine rg ?_
  refine mv F rfl fun a F => ?_
  refine mv F rfl fun a F => ?_
  obtain ⟨x10, e11, h⟩ := Option.bind_eq_some_iff.1 h
  try dsimp only at h
  refine ls (call F Try.func40 (store_may_ok (H.p3.p3) e11) rfl rfl fun v w hR a F => ?_)
  obtain ⟨rfl, H⟩ := hR
  refine qw F (r_not (F.t 19 rfl)) fun a F => ?_
  refine as_ F rfl fun a F => ?_
  refine rgend ?_
  replace F := F.only [16, 6, 3, 1, 2] (l' := [(16, .bool (!x10)), (6, .pointer (some ⟨g2, 0, none⟩)), (3, .pointer (some ⟨g1, 0, none⟩)), (1, .slice A1_ a1.length c1_), (2, .slice A2_ a2.length c2_)]) rfl
  by_cases c12 : x10 = true
  ·rw [if_pos c12] at h
   rw [c12] at F
   refine wp_cond_false (F.ev rfl) ?_
   refine wp_skip ?_
   refine rg ?_
   refine qw F (r_mf (f' := #[]) (c' := #[.pointer (some ⟨g2, 0, none⟩), .pointer (some ⟨g1, 0, none⟩)]) (by simp) (by rw [List.map_toArray]; exact congrArg _ (F.evs rfl))) fun a F => ?_
   refine ls (ldef F (cap := [.pointer (some ⟨g2, 0, none⟩), .pointer (some ⟨g1, 0, none⟩)]) rfl fun a F => ?_)
   refine rgend ?_
   refine wp_seq ?_
   replace H := H.drew
   have HS := H.fx4.fx1
   refine dr (fun w => Hp w0 (rd kByte A3 c4 a0.now.State :: rd (kSlice kByte) A5 c6 a0.now.Kept :: rd kByte A1_ c1_ a1 :: rd (kSlice kByte) A2_ c2_ a2 :: ps) (cel g0_ [.pointer (some ⟨g3_, 0, none⟩), .int .i64 a0.now.Gen, .slice A3 a0.now.State.length c4, .slice A5 a0.now.Kept.length c6, .slice A7 a0.now.More.length c8, .bool a0.has_, .int .i64 a0.from_, .bool a0.begun, .bool a0.broken] 73 :: cel g2 [.int .i64 0] 36 :: cel g1 [.pointer (some ⟨g0_, 0, none⟩)] 27 :: fs) w) _ (by kernel_rfl) ?_ (n := 18)
   refine dq 0 F rfl (by kernel_rfl) NP HS (fun w S => (r_ld (F.t 3 rfl) (cel_cell (o := 0) (S.cell 2 rfl) rfl) one27)) fun a F => ?_
   refine dq 1 F rfl (by kernel_rfl) NP HS (fun w S => (r_nc (F.t 22 rfl))) fun a F => ?_
   refine dq 2 F rfl (by kernel_rfl) NP HS (fun w S => (r_fa (off := 0) (F.t 23 rfl) fa73_0)) fun a F => ?_
   refine dq 3 F rfl (by kernel_rfl) NP HS (fun w S => (r_ld (F.t 24 rfl) (cel_cell (o := 0) (S.cell 0 rfl) rfl) one24)) fun a F => ?_
   refine dq 4 F rfl (by kernel_rfl) NP HS (fun w S => (r_ld (F.t 3 rfl) (cel_cell (o := 0) (S.cell 2 rfl) rfl) one27)) fun a F => ?_
   refine dq 7 F rfl (by kernel_rfl) NP HS (fun w S => (r_ld (F.t 3 rfl) (cel_cell (o := 0) (S.cell 2 rfl) rfl) one27)) fun a F => ?_
   refine dq 8 F rfl (by kernel_rfl) NP HS (fun w S => (r_nc (F.t 29 rfl))) fun a F => ?_
   refine dq 9 F rfl (by kernel_rfl) NP HS (fun w S => (r_fa (off := 0) (F.t 30 rfl) fa73_0)) fun a F => ?_
   refine dq 10 F rfl (by kernel_rfl) NP HS (fun w S => (r_ld (F.t 31 rfl) (cel_cell (o := 0) (S.cell 0 rfl) rfl) one24)) fun a F => ?_
   refine dq 11 F rfl (by kernel_rfl) NP HS (fun w S => (r_ld (F.t 3 rfl) (cel_cell (o := 0) (S.cell 2 rfl) rfl) one27)) fun a F => ?_
   refine dq 13 F rfl (by kernel_rfl) NP HS (fun w S => (r_ld (F.t 3 rfl) (cel_cell (o := 0) (S.cell 2 rfl) rfl) one27)) fun a F => ?_
   obtain ⟨o_13, k_13, h⟩ := Option.bind_eq_some_iff.1 h
   refine d1 5 rfl (by kernel_rfl) (call F Try.func36 (R := fun v w => ∃ (x13 : Int), x13 = o_13 ∧ v = .int .i64 x13 ∧ Hp w0 (rd kByte A1_ c1_ a1 :: rd (kSlice kByte) A2_ c2_ a2 :: rd kByte A3 c4 a0.now.State :: rd (kSlice kByte) A5 c6 a0.now.Kept :: ps) (own (kSlice kByte) 29 A7 c8 a0.now.More :: cel g2 [.int .i64 0] 36 :: cel g0_ [.pointer (some ⟨g3_, 0, none⟩), .int .i64 a0.now.Gen, .slice A3 a0.now.State.length c4, .slice A5 a0.now.Kept.length c6, .slice A7 a0.now.More.length c8, .bool a0.has_, .int .i64 a0.from_, .bool a0.begun, .bool a0.broken] 73 :: cel g1 [.pointer (some ⟨g0_, 0, none⟩)] 27 :: obj_disk_Disk g3_ a3 :: fs) w) (args := [.pointer (some ⟨g0_, 0, none⟩)]) (cap := []) ?_ rfl rfl ?_)
   ·refine enter [.pointer (some ⟨g0_, 0, none⟩)] 9 Try.func36 fun Q a NP RET NRM F => ?_
    replace NP : ∀ c a w, ¬ Q (.panic c) a w := fun c a w h => by rcases NP c a w h with h | ⟨w, v, h, _⟩ <;> cases h
    refine rg ?_
    refine as_ F (v := .int .i64 0) rfl fun a F => ?_
    refine rgend ?_
    refine rg ?_
    refine mv F rfl fun a F => ?_
    refine qw F (r_nc (F.t 3 rfl)) fun a F => ?_
    refine qw F (r_fa (off := 0) (F.t 4 rfl) fa73_0) fun a F => ?_
    refine qw F (r_ld (F.t 5 rfl) (cel_cell (o := 0) (H.cell 0 rfl) rfl) one24) fun a F => ?_
    obtain ⟨x15, e16, k_13⟩ := Option.bind_eq_some_iff.1 k_13
    try dsimp only at k_13
    refine ls (call F Try.func76 (disk_Disk_Sectors_ok (H.f3.f3.f3.f3.f4) e16) rfl rfl fun v w hR a F => ?_)
    obtain ⟨rfl, H⟩ := hR
    refine qw F (r_quo (F.t 7 rfl) (F.ev (x := .const (.int .i64 2)) rfl) (by decide)) fun a F => ?_
    refine as_ F rfl fun a F => ?_
    refine rgend ?_
    replace F := F.only [2] (l' := [(2, .int .i64 (IntKind.i64.wrap (x15.tdiv 2)))]) rfl
    refine wp_ret ?_
    try dsimp only at k_13
    obtain rfl := Option.some.inj k_13
    exact RET _ _ (ret1 F rfl rfl ⟨_, rfl, _, rfl, rfl, H.p1.p1.p5.p5.px4.px4.px4.px4.f4.f2.f4.f4⟩)
   ·rintro v w ⟨x13, rfl, rfl, H⟩ a F
    try dsimp only at h F H
    have HS := H.f3.f2.f3.fx4.fx3
    refine kg _ HS (fun w S => S.p1.p1.p5.p5.px4.px4.px4.px4) ?_
    obtain ⟨x17, e18, h⟩ := Option.bind_eq_some_iff.1 h
    try dsimp only at h
    refine d1 6 rfl (by kernel_rfl) (call F Try.func42 (region_Greatest_ok (H.f3.f3.f3.f3.f4) e18) rfl rfl fun v w hR a F => ?_)
    obtain ⟨rfl, H⟩ := hR
    have HS := H.f4.f3.f4.fx4.fx3
    refine kg _ HS (fun w S => S) ?_
    obtain ⟨o_19, k_19, h⟩ := Option.bind_eq_some_iff.1 h
    refine d1 12 rfl (by kernel_rfl) (call F Try.func36 (R := fun v w => ∃ (x19 : Int), x19 = o_19 ∧ v = .int .i64 x19 ∧ Hp w0 (rd kByte A1_ c1_ a1 :: rd (kSlice kByte) A2_ c2_ a2 :: rd kByte A3 c4 a0.now.State :: rd (kSlice kByte) A5 c6 a0.now.Kept :: ps) (own (kSlice kByte) 29 A7 c8 a0.now.More :: cel g2 [.int .i64 0] 36 :: cel g0_ [.pointer (some ⟨g3_, 0, none⟩), .int .i64 a0.now.Gen, .slice A3 a0.now.State.length c4, .slice A5 a0.now.Kept.length c6, .slice A7 a0.now.More.length c8, .bool a0.has_, .int .i64 a0.from_, .bool a0.begun, .bool a0.broken] 73 :: cel g1 [.pointer (some ⟨g0_, 0, none⟩)] 27 :: obj_disk_Disk g3_ a3 :: fs) w) (args := [.pointer (some ⟨g0_, 0, none⟩)]) (cap := []) ?_ rfl rfl ?_)
    ·refine enter [.pointer (some ⟨g0_, 0, none⟩)] 9 Try.func36 fun Q a NP RET NRM F => ?_
     replace NP : ∀ c a w, ¬ Q (.panic c) a w := fun c a w h => by rcases NP c a w h with h | ⟨w, v, h, _⟩ <;> cases h
     refine rg ?_
     refine as_ F (v := .int .i64 0) rfl fun a F => ?_
     refine rgend ?_
     refine rg ?_
     refine mv F rfl fun a F => ?_
     refine qw F (r_nc (F.t 3 rfl)) fun a F => ?_
     refine qw F (r_fa (off := 0) (F.t 4 rfl) fa73_0) fun a F => ?_
     refine qw F (r_ld (F.t 5 rfl) (cel_cell (o := 0) (H.cell 3 rfl) rfl) one24) fun a F => ?_
     obtain ⟨x21, e22, k_19⟩ := Option.bind_eq_some_iff.1 k_19
     try dsimp only at k_19
     refine ls (call F Try.func76 (disk_Disk_Sectors_ok (H) e22) rfl rfl fun v w hR a F => ?_)
     obtain ⟨rfl, H⟩ := hR
     refine qw F (r_quo (F.t 7 rfl) (F.ev (x := .const (.int .i64 2)) rfl) (by decide)) fun a F => ?_
     refine as_ F rfl fun a F => ?_
     refine rgend ?_
     replace F := F.only [2] (l' := [(2, .int .i64 (IntKind.i64.wrap (x21.tdiv 2)))]) rfl
     refine wp_ret ?_
     try dsimp only at k_19
     obtain rfl := Option.some.inj k_19
     exact RET _ _ (ret1 F rfl rfl ⟨_, rfl, _, rfl, rfl, H.f4.f4.f4.f4⟩)
    ·rintro v w ⟨x19, rfl, rfl, H⟩ a F
     try dsimp only at h F H
     have HS := H.f3.f2.f3.fx4.fx3
     refine kg _ HS (fun w S => S) ?_
     obtain ⟨o_23, k_23, h⟩ := Option.bind_eq_some_iff.1 h
     refine d1 14 rfl (by kernel_rfl) (call F Try.func36 (R := fun v w => ∃ (x23 : Int), x23 = o_23 ∧ v = .int .i64 x23 ∧ Hp w0 (rd kByte A1_ c1_ a1 :: rd (kSlice kByte) A2_ c2_ a2 :: rd kByte A3 c4 a0.now.State :: rd (kSlice kByte) A5 c6 a0.now.Kept :: ps) (own (kSlice kByte) 29 A7 c8 a0.now.More :: cel g2 [.int .i64 0] 36 :: cel g0_ [.pointer (some ⟨g3_, 0, none⟩), .int .i64 a0.now.Gen, .slice A3 a0.now.State.length c4, .slice A5 a0.now.Kept.length c6, .slice A7 a0.now.More.length c8, .bool a0.has_, .int .i64 a0.from_, .bool a0.begun, .bool a0.broken] 73 :: cel g1 [.pointer (some ⟨g0_, 0, none⟩)] 27 :: obj_disk_Disk g3_ a3 :: fs) w) (args := [.pointer (some ⟨g0_, 0, none⟩)]) (cap := []) ?_ rfl rfl ?_)
     ·refine enter [.pointer (some ⟨g0_, 0, none⟩)] 9 Try.func36 fun Q a NP RET NRM F => ?_
      replace NP : ∀ c a w, ¬ Q (.panic c) a w := fun c a w h => by rcases NP c a w h with h | ⟨w, v, h, _⟩ <;> cases h
      refine rg ?_
      refine as_ F (v := .int .i64 0) rfl fun a F => ?_
      refine rgend ?_
      refine rg ?_
      refine mv F rfl fun a F => ?_
      refine qw F (r_nc (F.t 3 rfl)) fun a F => ?_
      refine qw F (r_fa (off := 0) (F.t 4 rfl) fa73_0) fun a F => ?_
      refine qw F (r_ld (F.t 5 rfl) (cel_cell (o := 0) (H.cell 2 rfl) rfl) one24) fun a F => ?_
      obtain ⟨x25, e26, k_23⟩ := Option.bind_eq_some_iff.1 k_23
      try dsimp only at k_23
      refine ls (call F Try.func76 (disk_Disk_Sectors_ok (H.f3.f3.f3.f3.f4) e26) rfl rfl fun v w hR a F => ?_)
      obtain ⟨rfl, H⟩ := hR
      refine qw F (r_quo (F.t 7 rfl) (F.ev (x := .const (.int .i64 2)) rfl) (by decide)) fun a F => ?_
      refine as_ F rfl fun a F => ?_
      refine rgend ?_
      replace F := F.only [2] (l' := [(2, .int .i64 (IntKind.i64.wrap (x25.tdiv 2)))]) rfl
      refine wp_ret ?_
      try dsimp only at k_23
      obtain rfl := Option.some.inj k_23
      exact RET _ _ (ret1 F rfl rfl ⟨_, rfl, _, rfl, rfl, H.f4.f4.f4.f4⟩)
     ·rintro v w ⟨x23, rfl, rfl, H⟩ a F
      try dsimp only at h F H
      have HS := H.f3.f2.f3.fx4.fx3
      refine kg _ HS (fun w S => S) ?_
      obtain ⟨x27, e28, h⟩ := Option.bind_eq_some_iff.1 h
      try dsimp only at h
      refine d1 15 rfl (by kernel_rfl) (call F Try.func42 (region_Greatest_ok (H.f3.f3.f3.f3.f4) e28) rfl rfl fun v w hR a F => ?_)
      obtain ⟨rfl, H⟩ := hR
      have HS := H.f4.f3.f4.fx4.fx3
      refine kg _ HS (fun w S => S) ?_
      refine dq 16 F rfl (by kernel_rfl) NP HS (fun w S => (r_max (F.t 28 rfl) (F.t 37 rfl))) fun a F => ?_
      refine dq 17 F rfl (by kernel_rfl) NP HS (fun w S => (r_as (F.t 38 rfl))) fun a F => ?_
      refine ddone (by kernel_rfl) ?_
      replace F := F.only [7, 6, 3, 1, 2] (l' := [(7, .int .i64 (max x17 x27)), (6, .pointer (some ⟨g2, 0, none⟩)), (3, .pointer (some ⟨g1, 0, none⟩)), (1, .slice A1_ a1.length c1_), (2, .slice A2_ a2.length c2_)]) rfl
      refine wp_seq ?_
      refine rg ?_
      refine mv F rfl fun a F => ?_
      refine qw F (r_ge (F.t 39 rfl) (F.ev (x := .const (.int .i64 281474976710656)) rfl)) fun a F => ?_
      refine rgend ?_
      by_cases c29 : (max x17 x27) ≥ 281474976710656
      ·rw [if_pos c29] at h
       rw [decide_eq_true c29] at F
       refine wp_cond_true (F.ev rfl) ?_
       refine rg ?_
       obtain ⟨_, hr, H⟩ := Hp.store (t := 36) (o := 0) (n := 1) (vs := [.int .i64 5]) (cs' := [.int .i64 5]) (H.f4.f4.f3.f3.f4) (F.t 6 rfl) (F.ev (x := .const (.int .i64 5)) rfl) rfl sz36 rfl (Nat.le_of_ble_eq_true rfl) rfl rfl
       refine ls (qn F (.inl rfl) (hr _ _ _ _) fun a F => ?_)
       refine rgend ?_
       replace F := F.only [6] (l' := [(6, .pointer (some ⟨g2, 0, none⟩))]) rfl
       refine wp_ret ?_
       have FO := F
       refine RET _ _ (retD FO Try.func41 rfl rfl ?_)
       refine inD (n := 7) (Nat.le_of_ble_eq_true rfl) rfl fun Q a NP RET NRM F => ?_
       replace NP : ∀ c a w, ¬ Q (.panic c) a w := fun c a w h => by obtain ⟨v, h, _⟩ := NP c a w h; cases h
       refine wp_region_lit ?_
       refine qw F (r_ld (F.t 1 rfl) (cel_cell (o := 0) (H.cell 4 rfl) rfl) one27) fun a F => ?_
       refine qw F (r_ld (F.t 0 rfl) (cel_cell (o := 0) (H.cell 0 rfl) rfl) one36) fun a F => ?_
       refine qw F (r_ne (F.t 3 rfl) (F.ev (x := .const (.int .i64 0)) rfl)) fun a F => ?_
       refine qw F (r_nc (F.t 2 rfl)) fun a F => ?_
       refine qw F (r_fa (off := 8) (F.t 5 rfl) fa73_5) fun a F => ?_
       obtain ⟨_, hr, H⟩ := Hp.store (t := 4) (o := 8) (n := 1) (vs := [.bool (decide (5 ≠ 0))]) (cs' := [.pointer (some ⟨g3_, 0, none⟩), .int .i64 a0.now.Gen, .slice A3 a0.now.State.length c4, .slice A5 a0.now.Kept.length c6, .slice A7 a0.now.More.length c8, .bool a0.has_, .int .i64 a0.from_, .bool a0.begun, .bool (decide (5 ≠ 0))]) (H.f4.f3.f3.f3.f4) (F.t 6 rfl) (F.t 4 rfl) rfl sz4 rfl (Nat.le_of_ble_eq_true rfl) rfl rfl
       refine ls (qn F (.inl rfl) (hr _ _ _ _) fun a F => ?_)
       refine wpList_nil ?_
       replace F := F.only [] (l' := []) rfl
       replace H := Hp.closeO_store_Store (x := (⟨a0.now, a0.has_, a0.from_, a0.begun, decide (5 ≠ 0)⟩ : store_Store)) (H.f4.f3.f3.f4.f4) 2 rfl 3 rfl
       try dsimp only at h
       obtain ⟨rfl, hx_0⟩ := Prod.mk.inj (Option.some.inj h)
       obtain ⟨rfl, rfl⟩ := Prod.mk.inj hx_0
       exact NRM _ _ (ret0 F rfl ⟨_, rfl, _, resC1 FO rfl rfl (ldv1 (cel_cell (o := 0) (H.cell 1 rfl) rfl) one36), ⟨_, rfl, rfl, H.px3.px2.px1.px0.fx3.fx1⟩⟩)
      ·rw [if_neg c29] at h
       rw [decide_eq_false c29] at F
       refine wp_cond_false (F.ev rfl) ?_
       refine wp_skip ?_
       refine rg ?_
       refine qw F (r_ld (F.t 3 rfl) (cel_cell (o := 0) (H.cell 4 rfl) rfl) one27) fun a F => ?_
       replace H := Hp.closeO_store_Store (x := a0) (H.f4.f3.f2.f3.f4) 2 rfl 3 rfl
       obtain ⟨x30, e31, h⟩ := Option.bind_eq_some_iff.1 h
       try dsimp only at h
       refine ls (call F Try.func43 (store_Store_other_ok (H) e31) rfl rfl fun v w hR a F => ?_)
       obtain ⟨rfl, H⟩ := hR
       refine as_ F rfl fun a F => ?_
       refine rgend ?_
       replace F := F.only [8, 7, 6, 3, 1, 2] (l' := [(8, .int .i64 x30), (7, .int .i64 (max x17 x27)), (6, .pointer (some ⟨g2, 0, none⟩)), (3, .pointer (some ⟨g1, 0, none⟩)), (1, .slice A1_ a1.length c1_), (2, .slice A2_ a2.length c2_)]) rfl
       refine wp_seq ?_
       refine wp_seq ?_
       obtain ⟨A32, c33, A34, c35, A36, c37, H⟩ := Hp.openO_store_Store (H)
       replace H := H.drew
       have HS := H.px5.px4.fx2.fx1
       refine dr (fun w => Hp w0 (rd kByte A32 c33 a0.now.State :: rd (kSlice kByte) A34 c35 a0.now.Kept :: rd kByte A1_ c1_ a1 :: rd (kSlice kByte) A2_ c2_ a2 :: ps) (cel g0_ [.pointer (some ⟨g3_, 0, none⟩), .int .i64 a0.now.Gen, .slice A32 a0.now.State.length c33, .slice A34 a0.now.Kept.length c35, .slice A36 a0.now.More.length c37, .bool a0.has_, .int .i64 a0.from_, .bool a0.begun, .bool a0.broken] 73 :: cel g2 [.int .i64 0] 36 :: cel g1 [.pointer (some ⟨g0_, 0, none⟩)] 27 :: fs) w) _ (by kernel_rfl) ?_ (n := 13)
       refine dq 0 F rfl (by kernel_rfl) NP HS (fun w S => (r_ld (F.t 3 rfl) (cel_cell (o := 0) (S.cell 2 rfl) rfl) one27)) fun a F => ?_
       refine dq 1 F rfl (by kernel_rfl) NP HS (fun w S => (r_nc (F.t 43 rfl))) fun a F => ?_
       refine dq 2 F rfl (by kernel_rfl) NP HS (fun w S => (r_fa (off := 0) (F.t 44 rfl) fa73_0)) fun a F => ?_
       refine dq 3 F rfl (by kernel_rfl) NP HS (fun w S => (r_ld (F.t 45 rfl) (cel_cell (o := 0) (S.cell 0 rfl) rfl) one24)) fun a F => ?_
       refine dq 4 F rfl (by kernel_rfl) NP HS (fun w S => (r_mv (F.t 8 rfl))) fun a F => ?_
       refine dq 5 F rfl (by kernel_rfl) NP HS (fun w S => (r_ld (F.t 3 rfl) (cel_cell (o := 0) (S.cell 2 rfl) rfl) one27)) fun a F => ?_
       refine dq 7 F rfl (by kernel_rfl) NP HS (fun w S => (r_mv (F.t 7 rfl))) fun a F => ?_
       refine dq 8 F rfl (by kernel_rfl) NP HS (fun w S => (r_add (F.t 50 rfl) (F.ev (x := .const (.int .i64 1)) rfl))) fun a F => ?_
       refine dq 9 F rfl (by kernel_rfl) NP HS (fun w S => (r_mv (F.t 1 rfl))) fun a F => ?_
       refine dq 10 F rfl (by kernel_rfl) NP HS (fun w S => (r_mv (F.t 2 rfl))) fun a F => ?_
       obtain ⟨o_38, k_38, h⟩ := Option.bind_eq_some_iff.1 h
       refine d1 6 rfl (by kernel_rfl) (call F Try.func36 (R := fun v w => ∃ (x38 : Int), x38 = o_38 ∧ v = .int .i64 x38 ∧ Hp w0 (rd kByte A1_ c1_ a1 :: rd (kSlice kByte) A2_ c2_ a2 :: rd kByte A32 c33 a0.now.State :: rd (kSlice kByte) A34 c35 a0.now.Kept :: ps) (own (kSlice kByte) 29 A36 c37 a0.now.More :: cel g2 [.int .i64 0] 36 :: cel g0_ [.pointer (some ⟨g3_, 0, none⟩), .int .i64 a0.now.Gen, .slice A32 a0.now.State.length c33, .slice A34 a0.now.Kept.length c35, .slice A36 a0.now.More.length c37, .bool a0.has_, .int .i64 a0.from_, .bool a0.begun, .bool a0.broken] 73 :: cel g1 [.pointer (some ⟨g0_, 0, none⟩)] 27 :: obj_disk_Disk g3_ a3 :: fs) w) (args := [.pointer (some ⟨g0_, 0, none⟩)]) (cap := []) ?_ rfl rfl ?_)
       ·refine enter [.pointer (some ⟨g0_, 0, none⟩)] 9 Try.func36 fun Q a NP RET NRM F => ?_
        replace NP : ∀ c a w, ¬ Q (.panic c) a w := fun c a w h => by rcases NP c a w h with h | ⟨w, v, h, _⟩ <;> cases h
        refine rg ?_
        refine as_ F (v := .int .i64 0) rfl fun a F => ?_
        refine rgend ?_
        refine rg ?_
        refine mv F rfl fun a F => ?_
        refine qw F (r_nc (F.t 3 rfl)) fun a F => ?_
        refine qw F (r_fa (off := 0) (F.t 4 rfl) fa73_0) fun a F => ?_
        refine qw F (r_ld (F.t 5 rfl) (cel_cell (o := 0) (H.cell 0 rfl) rfl) one24) fun a F => ?_
        obtain ⟨x40, e41, k_38⟩ := Option.bind_eq_some_iff.1 k_38
        try dsimp only at k_38
        refine ls (call F Try.func76 (disk_Disk_Sectors_ok (H.f4.f4.f3.f3.f4) e41) rfl rfl fun v w hR a F => ?_)
        obtain ⟨rfl, H⟩ := hR
        refine qw F (r_quo (F.t 7 rfl) (F.ev (x := .const (.int .i64 2)) rfl) (by decide)) fun a F => ?_
        refine as_ F rfl fun a F => ?_
        refine rgend ?_
        replace F := F.only [2] (l' := [(2, .int .i64 (IntKind.i64.wrap (x40.tdiv 2)))]) rfl
        refine wp_ret ?_
        try dsimp only at k_38
        obtain rfl := Option.some.inj k_38
        exact RET _ _ (ret1 F rfl rfl ⟨_, rfl, _, rfl, rfl, H.p1.p1.p5.p5.px4.px4.px4.px4.px4.px4.f4.f2.f4.f4⟩)
       ·rintro v w ⟨x38, rfl, rfl, H⟩ a F
        try dsimp only at h F H
        have HS := H.f3.f2.f3.fx4.fx3
        refine kg _ HS (fun w S => S.p1.p1.p5.p5.px4.px4.px4.px4) ?_
        obtain ⟨⟨x42, x43⟩, e44, h⟩ := Option.bind_eq_some_iff.1 h
        try dsimp only at h
        refine d1 11 rfl (by kernel_rfl) (call F Try.func44 (region_Lay_ok (H.p1.p1.f3.f3.f3.f3.f4) e44) rfl rfl fun v w hR a F => ?_)
        obtain ⟨rfl, H⟩ := hR
        have HS := H.f4.f3.f4.fx4.fx3
        refine kg _ HS (fun w S => S) ?_
        refine dq 12 F rfl (by kernel_rfl) NP HS (fun w S => (r_as (F.t 54 rfl))) fun a F => ?_
        refine ddone (by kernel_rfl) ?_
        replace F := F.only [9, 8, 7, 6, 3, 1, 2] (l' := [(9, .int .i64 x42), (8, .int .i64 x30), (7, .int .i64 (max x17 x27)), (6, .pointer (some ⟨g2, 0, none⟩)), (3, .pointer (some ⟨g1, 0, none⟩)), (1, .slice A1_ a1.length c1_), (2, .slice A2_ a2.length c2_)]) rfl
        refine rg ?_
        refine mv F rfl fun a F => ?_
        refine qw F (r_ne (F.t 55 rfl) (F.ev (x := .const (.int .i64 0)) rfl)) fun a F => ?_
        refine rgend ?_
        by_cases c45 : x42 ≠ 0
        ·rw [if_pos c45] at h
         rw [decide_eq_true c45] at F
         refine wp_cond_true (F.ev rfl) ?_
         refine rg ?_
         refine mv F rfl fun a F => ?_
         obtain ⟨_, hr, H⟩ := Hp.store (t := 36) (o := 0) (n := 1) (vs := [.int .i64 x42]) (cs' := [.int .i64 x42]) (H.f4.f4.f3.f3.f4) (F.t 6 rfl) (F.t 57 rfl) rfl sz36 rfl (Nat.le_of_ble_eq_true rfl) rfl rfl
         refine ls (qn F (.inl rfl) (hr _ _ _ _) fun a F => ?_)
         refine rgend ?_
         replace F := F.only [6] (l' := [(6, .pointer (some ⟨g2, 0, none⟩))]) rfl
         refine wp_ret ?_
         have FO := F
         refine RET _ _ (retD FO Try.func41 rfl rfl ?_)
         refine inD (n := 7) (Nat.le_of_ble_eq_true rfl) rfl fun Q a NP RET NRM F => ?_
         replace NP : ∀ c a w, ¬ Q (.panic c) a w := fun c a w h => by obtain ⟨v, h, _⟩ := NP c a w h; cases h
         refine wp_region_lit ?_
         refine qw F (r_ld (F.t 1 rfl) (cel_cell (o := 0) (H.cell 4 rfl) rfl) one27) fun a F => ?_
         refine qw F (r_ld (F.t 0 rfl) (cel_cell (o := 0) (H.cell 0 rfl) rfl) one36) fun a F => ?_
         refine qw F (r_ne (F.t 3 rfl) (F.ev (x := .const (.int .i64 0)) rfl)) fun a F => ?_
         refine qw F (r_nc (F.t 2 rfl)) fun a F => ?_
         refine qw F (r_fa (off := 8) (F.t 5 rfl) fa73_5) fun a F => ?_
         obtain ⟨_, hr, H⟩ := Hp.store (t := 4) (o := 8) (n := 1) (vs := [.bool (decide (x42 ≠ 0))]) (cs' := [.pointer (some ⟨g3_, 0, none⟩), .int .i64 a0.now.Gen, .slice A32 a0.now.State.length c33, .slice A34 a0.now.Kept.length c35, .slice A36 a0.now.More.length c37, .bool a0.has_, .int .i64 a0.from_, .bool a0.begun, .bool (decide (x42 ≠ 0))]) (H.f4.f3.f3.f3.f4) (F.t 6 rfl) (F.t 4 rfl) rfl sz4 rfl (Nat.le_of_ble_eq_true rfl) rfl rfl
         refine ls (qn F (.inl rfl) (hr _ _ _ _) fun a F => ?_)
         refine wpList_nil ?_
         replace F := F.only [] (l' := []) rfl
         replace H := Hp.closeO_store_Store (x := (⟨a0.now, a0.has_, a0.from_, a0.begun, decide (x42 ≠ 0)⟩ : store_Store)) (H.f4.f3.f3.f4.f4) 2 rfl 3 rfl
         try dsimp only at h
         obtain ⟨rfl, hx_0⟩ := Prod.mk.inj (Option.some.inj h)
         obtain ⟨rfl, rfl⟩ := Prod.mk.inj hx_0
         exact NRM _ _ (ret0 F rfl ⟨_, rfl, _, resC1 FO rfl rfl (ldv1 (cel_cell (o := 0) (H.cell 1 rfl) rfl) one36), ⟨_, rfl, rfl, H.px3.px2.px1.px0.fx3.fx1⟩⟩)
        ·rw [if_neg c45] at h
         rw [decide_eq_false c45] at F
         refine wp_cond_false (F.ev rfl) ?_
         refine wp_skip ?_
         refine wp_seq ?_
         refine rg ?_
         refine qw F (r_ld (F.t 3 rfl) (cel_cell (o := 0) (H.cell 4 rfl) rfl) one27) fun a F => ?_
         refine qw F (r_nc (F.t 58 rfl)) fun a F => ?_
         refine qw F (r_fa (off := 0) (F.t 59 rfl) fa73_0) fun a F => ?_
         refine qw F (r_ld (F.t 60 rfl) (cel_cell (o := 0) (H.cell 3 rfl) rfl) one24) fun a F => ?_
         obtain ⟨⟨x46, x47⟩, e48, h⟩ := Option.bind_eq_some_iff.1 h
         try dsimp only at h
         refine ls (call F Try.func29 (disk_Disk_Sync_ok (H) e48) rfl rfl fun v w hR a F => ?_)
         obtain ⟨rfl, H⟩ := hR
         refine as_ F rfl fun a F => ?_
         refine rgend ?_
         replace F := F.only [10, 8, 7, 6, 3, 1, 2] (l' := [(10, .int .i64 x46), (8, .int .i64 x30), (7, .int .i64 (max x17 x27)), (6, .pointer (some ⟨g2, 0, none⟩)), (3, .pointer (some ⟨g1, 0, none⟩)), (1, .slice A1_ a1.length c1_), (2, .slice A2_ a2.length c2_)]) rfl
         refine rg ?_
         refine mv F rfl fun a F => ?_
         refine qw F (r_ne (F.t 63 rfl) (F.ev (x := .const (.int .i64 0)) rfl)) fun a F => ?_
         refine rgend ?_
         by_cases c49 : x46 ≠ 0
         ·rw [if_pos c49] at h
          rw [decide_eq_true c49] at F
          refine wp_cond_true (F.ev rfl) ?_
          refine rg ?_
          refine mv F rfl fun a F => ?_
          obtain ⟨_, hr, H⟩ := Hp.store (t := 36) (o := 0) (n := 1) (vs := [.int .i64 x46]) (cs' := [.int .i64 x46]) (H.f4.f4.f3.f3.f4) (F.t 6 rfl) (F.t 65 rfl) rfl sz36 rfl (Nat.le_of_ble_eq_true rfl) rfl rfl
          refine ls (qn F (.inl rfl) (hr _ _ _ _) fun a F => ?_)
          refine rgend ?_
          replace F := F.only [6] (l' := [(6, .pointer (some ⟨g2, 0, none⟩))]) rfl
          refine wp_ret ?_
          have FO := F
          refine RET _ _ (retD FO Try.func41 rfl rfl ?_)
          refine inD (n := 7) (Nat.le_of_ble_eq_true rfl) rfl fun Q a NP RET NRM F => ?_
          replace NP : ∀ c a w, ¬ Q (.panic c) a w := fun c a w h => by obtain ⟨v, h, _⟩ := NP c a w h; cases h
          refine wp_region_lit ?_
          refine qw F (r_ld (F.t 1 rfl) (cel_cell (o := 0) (H.cell 4 rfl) rfl) one27) fun a F => ?_
          refine qw F (r_ld (F.t 0 rfl) (cel_cell (o := 0) (H.cell 0 rfl) rfl) one36) fun a F => ?_
          refine qw F (r_ne (F.t 3 rfl) (F.ev (x := .const (.int .i64 0)) rfl)) fun a F => ?_
          refine qw F (r_nc (F.t 2 rfl)) fun a F => ?_
          refine qw F (r_fa (off := 8) (F.t 5 rfl) fa73_5) fun a F => ?_
          obtain ⟨_, hr, H⟩ := Hp.store (t := 4) (o := 8) (n := 1) (vs := [.bool (decide (x46 ≠ 0))]) (cs' := [.pointer (some ⟨g3_, 0, none⟩), .int .i64 a0.now.Gen, .slice A32 a0.now.State.length c33, .slice A34 a0.now.Kept.length c35, .slice A36 a0.now.More.length c37, .bool a0.has_, .int .i64 a0.from_, .bool a0.begun, .bool (decide (x46 ≠ 0))]) (H.f4.f3.f3.f3.f4) (F.t 6 rfl) (F.t 4 rfl) rfl sz4 rfl (Nat.le_of_ble_eq_true rfl) rfl rfl
          refine ls (qn F (.inl rfl) (hr _ _ _ _) fun a F => ?_)
          refine wpList_nil ?_
          replace F := F.only [] (l' := []) rfl
          replace H := Hp.closeO_store_Store (x := (⟨a0.now, a0.has_, a0.from_, a0.begun, decide (x46 ≠ 0)⟩ : store_Store)) (H.f4.f3.f3.f4.f4) 2 rfl 3 rfl
          try dsimp only at h
          obtain ⟨rfl, hx_0⟩ := Prod.mk.inj (Option.some.inj h)
          obtain ⟨rfl, rfl⟩ := Prod.mk.inj hx_0
          exact NRM _ _ (ret0 F rfl ⟨_, rfl, _, resC1 FO rfl rfl (ldv1 (cel_cell (o := 0) (H.cell 1 rfl) rfl) one36), ⟨_, rfl, rfl, H.px3.px2.px1.px0.fx3.fx1⟩⟩)
         ·rw [if_neg c49] at h
          rw [decide_eq_false c49] at F
          refine wp_cond_false (F.ev rfl) ?_
          refine wp_skip ?_
          refine wp_seq ?_
          replace H := H.drew
          have HS := H.fx1.fx0
          refine dr (fun w => Hp w0 (rd kByte A1_ c1_ a1 :: rd (kSlice kByte) A2_ c2_ a2 :: rd kByte A32 c33 a0.now.State :: rd (kSlice kByte) A34 c35 a0.now.Kept :: ps) (cel g2 [.int .i64 0] 36 :: cel g0_ [.pointer (some ⟨g3_, 0, none⟩), .int .i64 a0.now.Gen, .slice A32 a0.now.State.length c33, .slice A34 a0.now.Kept.length c35, .slice A36 a0.now.More.length c37, .bool a0.has_, .int .i64 a0.from_, .bool a0.begun, .bool a0.broken] 73 :: cel g1 [.pointer (some ⟨g0_, 0, none⟩)] 27 :: fs) w) _ (by kernel_rfl) ?_ (n := 11)
          refine dq 0 F rfl (by kernel_rfl) NP HS (fun w S => (r_ld (F.t 3 rfl) (cel_cell (o := 0) (S.cell 2 rfl) rfl) one27)) fun a F => ?_
          refine dq 1 F rfl (by kernel_rfl) NP HS (fun w S => (r_mv (F.t 7 rfl))) fun a F => ?_
          refine dq 2 F rfl (by kernel_rfl) NP HS (fun w S => (r_add (F.t 67 rfl) (F.ev (x := .const (.int .i64 1)) rfl))) fun a F => ?_
          refine dq 3 F rfl (by kernel_rfl) NP HS (fun w S => (r_mv (F.t 1 rfl))) fun a F => ?_
          refine dq 5 F rfl (by kernel_rfl) NP HS (fun w S => (r_mv (F.t 2 rfl))) fun a F => ?_
          obtain ⟨x50, e51, h⟩ := Option.bind_eq_some_iff.1 h
          try dsimp only at h
          refine d1 4 rfl (by kernel_rfl) (call F Try.func39 (slices_Clone_ok (H.p0) e51) rfl rfl fun v w hR a F => ?_)
          obtain ⟨A52, c53, rfl, H⟩ := hR
          have HS := H.fx2.fx1.fx0
          refine kg _ HS (fun w S => S) ?_
          obtain ⟨o_56, k_56, h⟩ := Option.bind_eq_some_iff.1 h
          refine d1 6 rfl (by kernel_rfl) (call F Try.func38 (R := fun v w => ∃ (x54 : List (List Int)), x54 = o_56 ∧ ∃ (A55 : Option Addr) (c56 : Nat), v = .slice A55 x54.length c56 ∧ Hp w0 (rd kByte A1_ c1_ a1 :: rd (kSlice kByte) A2_ c2_ a2 :: rd kByte A32 c33 a0.now.State :: rd (kSlice kByte) A34 c35 a0.now.Kept :: ps) (own (kSlice kByte) 29 A55 c56 x54 :: own kByte 5 A52 c53 x50 :: own (kSlice kByte) 29 A36 c37 a0.now.More :: cel g2 [.int .i64 0] 36 :: cel g0_ [.pointer (some ⟨g3_, 0, none⟩), .int .i64 a0.now.Gen, .slice A32 a0.now.State.length c33, .slice A34 a0.now.Kept.length c35, .slice A36 a0.now.More.length c37, .bool a0.has_, .int .i64 a0.from_, .bool a0.begun, .bool a0.broken] 73 :: cel g1 [.pointer (some ⟨g0_, 0, none⟩)] 27 :: obj_disk_Disk g3_ x47 :: fs) w) (args := [.slice A2_ a2.length c2_]) (cap := []) ?_ rfl rfl ?_)
          ·refine enter [.slice A2_ a2.length c2_] 19 Try.func38 fun Q a NP RET NRM F => ?_
           replace NP : ∀ c a w, ¬ Q (.panic c) a w := fun c a w h => by rcases NP c a w h with h | ⟨w, v, h, _⟩ <;> cases h
           refine rg ?_
           refine as_ F (v := .slice none 0 0) rfl fun a F => ?_
           refine rgend ?_
           refine rg ?_
           refine as_ F (v := .slice none 0 0) rfl fun a F => ?_
           refine rgend ?_
           refine wp_seq ?_
           refine rg ?_
           refine mv F rfl fun a F => ?_
           refine qw F (r_len (F.t 6 rfl) Try.underlying30) fun a F => ?_
           refine mv F (v := .int .i64 0) rfl fun a F => ?_
           refine rgend ?_
           replace H := H.nilOwn (kSlice kByte) 29
           obtain ⟨o_64, k_64, k_56⟩ := Option.bind_eq_some_iff.1 k_56
           refine cut (fun a w => ∃ (x62 : List (List Int)), x62 = o_64 ∧ ∃ (A63 : Option Addr) (c64 : Nat), Fr 19 [] [(3, .slice A63 x62.length c64)] a ∧ Hp w0 (rd kByte A1_ c1_ a1 :: rd (kSlice kByte) A2_ c2_ a2 :: rd kByte A32 c33 a0.now.State :: rd (kSlice kByte) A34 c35 a0.now.Kept :: ps) (own (kSlice kByte) 29 A63 c64 x62 :: own kByte 5 A52 c53 x50 :: own (kSlice kByte) 29 A36 c37 a0.now.More :: cel g2 [.int .i64 0] 36 :: cel g0_ [.pointer (some ⟨g3_, 0, none⟩), .int .i64 a0.now.Gen, .slice A32 a0.now.State.length c33, .slice A34 a0.now.Kept.length c35, .slice A36 a0.now.More.length c37, .bool a0.has_, .int .i64 a0.from_, .bool a0.begun, .bool a0.broken] 73 :: cel g1 [.pointer (some ⟨g0_, 0, none⟩)] 27 :: obj_disk_Disk g3_ x47 :: fs) w) (wp_block ?_) ?_
           ·refine wloop (store_Store_Begin_b0 a2) (fun (s : (List (List Int)) × Int) a w => ∃ (A59 : Option Addr) (c60 : Nat), Fr 19 [] [(3, .slice A59 s.1.length c60), (6, .slice A2_ a2.length c2_), (7, .int .i64 (a2.length : Int)), (8, .int .i64 s.2)] a ∧ Hp w0 (rd (kSlice kByte) A2_ c2_ a2 :: rd kByte A1_ c1_ a1 :: rd kByte A32 c33 a0.now.State :: rd (kSlice kByte) A34 c35 a0.now.Kept :: ps) (own (kSlice kByte) 29 A59 c60 s.1 :: own kByte 5 A52 c53 x50 :: own (kSlice kByte) 29 A36 c37 a0.now.More :: cel g2 [.int .i64 0] 36 :: cel g0_ [.pointer (some ⟨g3_, 0, none⟩), .int .i64 a0.now.Gen, .slice A32 a0.now.State.length c33, .slice A34 a0.now.Kept.length c35, .slice A36 a0.now.More.length c37, .bool a0.has_, .int .i64 a0.from_, .bool a0.begun, .bool a0.broken] 73 :: cel g1 [.pointer (some ⟨g0_, 0, none⟩)] 27 :: obj_disk_Disk g3_ x47 :: fs) w) k_64 ⟨none, 0, F.only [3, 6, 7, 8] rfl, H.p3.p3.p2.p4.px4.px4.px4.px4.f2.f6.f6.f6.f6.f6.f6⟩ ?_
            rintro ⟨x58, x61⟩ a w q_64 j_64 u_64 ⟨A59, c60, F, H⟩
            unfold store_Store_Begin_b0 at j_64
            try dsimp only at j_64 F H
            refine rg ?_
            refine qw F (r_lt (F.t 8 rfl) (F.t 7 rfl)) fun a F => ?_
            refine rgend ?_
            refine wp_seq ?_
            by_cases c66 : x61 < (a2.length : Int)
            ·rw [if_pos c66] at j_64
             rw [decide_eq_true c66] at F
             refine wp_cond_true (F.ev rfl) ?_
             refine wp_skip ?_
             refine wp_seq ?_
             refine wp_block ?_
             refine rg ?_
             obtain ⟨c67, j_64⟩ := guardO j_64
             obtain ⟨g68, o69, s70, hr, H⟩ := H.ix [] 0 rfl (F.t 6 rfl) (F.t 8 rfl) Try.underlying30 sz29 (by decide) c67.1 c67.2
             obtain ⟨A71, c72, rfl, H⟩ := H.says_slice 1 rfl
             refine qw F (hr _ _ _ _ _ _) fun a F => ?_
             refine qw F (r_ld (F.t 10 rfl) (range_cell (j := 0) (H.range 1 rfl) rfl) one29) fun a F => ?_
             refine as_ F rfl fun a F => ?_
             refine rgend ?_
             refine wp_region_lit ?_
             refine mv F rfl fun a F => ?_
             refine mv F rfl fun a F => ?_
             obtain ⟨x73, e74, j_64⟩ := Option.bind_eq_some_iff.1 j_64
             try dsimp only at j_64
             refine ls (call F Try.func39 (slices_Clone_ok (H.p0) e74) rfl rfl fun v w hR a F => ?_)
             obtain ⟨A75, c76, rfl, H⟩ := hR
             replace H := (H).freeze
             refine ls (lbs F H (e := 29) (vs := [(0, .slice A75 x73.length c76)]) (cs := [.slice A75 x73.length c76]) rfl (fun w => by kernel_rfl) fun g77 w a H F => ?_)
             obtain ⟨c78, j_64⟩ := guardO j_64
             obtain ⟨A79, c80, _, hr, H⟩ := Hp.appendCelL (kd := (kSlice kByte)) (xs := x58) (ys := [x73]) (H.f7.f7.f7.f7.f7.f7.f6.f7) (F.t 12 rfl) (F.t 15 rfl) Try.underlying30 ti29 rfl (by decide) (by decide) rfl ((SayL.cons (kd := (kSlice kByte)) (c1 := [.slice A75 x73.length c76]) (y := x73) (fun Z hp => ⟨A75, c76, rfl, pat hp 0 rfl⟩) SayL.nil)) c78
             refine qw F (hr _ _ _ _ _) fun a F => ?_
             refine as_ F rfl fun a F => ?_
             refine wpList_nil ?_
             replace F := F.only [3, 6, 7, 8] (l' := [(3, .slice A79 ((x58 ++ ([x73]))).length c80), (6, .slice A2_ a2.length c2_), (7, .int .i64 (a2.length : Int)), (8, .int .i64 x61)]) rfl
             refine wp_region_lit ?_
             refine qw F (r_add (F.t 8 rfl) (F.ev (x := .const (.int .i64 1)) rfl)) fun a F => ?_
             refine mv F rfl fun a F => ?_
             refine wpList_nil ?_
             try dsimp only at j_64
             obtain rfl := Option.some.inj j_64
             exact ⟨_, rfl, A79, c80, F.only [3, 6, 7, 8] rfl, H.px3.px2.px1.px0⟩
            ·rw [if_neg c66] at j_64
             rw [decide_eq_false c66] at F
             refine wp_cond_false (F.ev rfl) ?_
             refine wp_exit ?_
             try dsimp only at j_64
             obtain rfl := Option.some.inj j_64
             obtain rfl := u_64 _ rfl
             repeat (with_reducible refine exT ?_)
             with_reducible refine exB ?_
             exact ⟨_, rfl, A59, c60, F.only [3] rfl, H.p3.p3.p2.p4.px4.px4.px4.px4⟩
           ·rintro a w ⟨x62, rfl, A63, c64, F, H⟩
            try dsimp only at k_56 F H
            refine rg ?_
            refine mv F rfl fun a F => ?_
            refine as_ F rfl fun a F => ?_
            refine rgend ?_
            refine wp_ret ?_
            try dsimp only at k_56
            obtain rfl := Option.some.inj k_56
            exact RET _ _ (ret1 F rfl rfl ⟨_, rfl, _, rfl, A63, c64, rfl, H⟩)
          ·rintro v w ⟨x54, rfl, A55, c56, rfl, H⟩ a F
           try dsimp only at h F H
           have HS := H.fx6.fx2.fx1.fx0
           refine kg _ HS (fun w S => S) ?_
           refine dq 7 F rfl (by kernel_rfl) NP HS (fun w S => (r_bd F (vs := [(0, .int .i64 (IntKind.i64.wrap ((max x17 x27) + 1))), (1, .slice A52 x50.length c53), (2, .slice A55 x54.length c56)]) (cs := [.int .i64 (IntKind.i64.wrap ((max x17 x27) + 1)), .slice A52 x50.length c53, .slice A55 x54.length c56, .slice none 0 0]) rfl (fun w => by kernel_rfl))) fun a F => ?_
           refine dq 8 F rfl (by kernel_rfl) NP HS (fun w S => (r_nc (F.t 66 rfl))) fun a F => ?_
           refine dq 9 F rfl (by kernel_rfl) NP HS (fun w S => (r_fa (off := 1) (F.t 74 rfl) fa73_1)) fun a F => ?_
           obtain ⟨_, hr, H⟩ := Hp.store (t := 32) (o := 1) (n := 4) (vs := [.int .i64 (IntKind.i64.wrap ((max x17 x27) + 1)), .slice A52 x50.length c53, .slice A55 x54.length c56, .slice none 0 0]) (cs' := [.pointer (some ⟨g3_, 0, none⟩), .int .i64 (IntKind.i64.wrap ((max x17 x27) + 1)), .slice A52 x50.length c53, .slice A55 x54.length c56, .slice none 0 0, .bool a0.has_, .int .i64 a0.from_, .bool a0.begun, .bool a0.broken]) (H.f6.f6.f5.f5.f5.f5.f6) (F.t 75 rfl) (F.t 73 rfl) rfl sz32 rfl (Nat.le_of_ble_eq_true rfl) rfl rfl
           refine d1 10 rfl (by kernel_rfl) (qn F (.inl rfl) (hr _ _ _ _) fun a F => ?_)
           have HS := H.fx6.fx3.fx2.fx1
           refine kga (by kernel_rfl) HS ?_
           refine ddone (by kernel_rfl) ?_
           replace F := F.only [8, 6, 3] (l' := [(8, .int .i64 x30), (6, .pointer (some ⟨g2, 0, none⟩)), (3, .pointer (some ⟨g1, 0, none⟩))]) rfl
           refine wp_seq ?_
           replace H := H.drew
           have HS := H.fx6.fx3.fx2.fx1.fx0
           refine dr (fun w => Hp w0 (rd kByte A1_ c1_ a1 :: rd (kSlice kByte) A2_ c2_ a2 :: rd kByte A32 c33 a0.now.State :: rd (kSlice kByte) A34 c35 a0.now.Kept :: ps) (cel g2 [.int .i64 0] 36 :: cel g1 [.pointer (some ⟨g0_, 0, none⟩)] 27 :: fs) w) _ (by kernel_rfl) ?_ (n := 13)
           refine dq 0 F rfl (by kernel_rfl) NP HS (fun w S => (r_ld (F.t 3 rfl) (cel_cell (o := 0) (S.cell 1 rfl) rfl) one27)) fun a F => ?_
           refine dq 1 F rfl (by kernel_rfl) NP HS (fun w S => (r_ld (F.t 3 rfl) (cel_cell (o := 0) (S.cell 1 rfl) rfl) one27)) fun a F => ?_
           refine dq 2 F rfl (by kernel_rfl) NP HS (fun w S => (r_ld (F.t 3 rfl) (cel_cell (o := 0) (S.cell 1 rfl) rfl) one27)) fun a F => ?_
           refine dq 3 F rfl (by kernel_rfl) NP HS (fun w S => (r_mv (F.t 8 rfl))) fun a F => ?_
           refine dq 4 F rfl (by kernel_rfl) NP HS (fun w S => (r_nc (F.t 76 rfl))) fun a F => ?_
           refine dq 5 F rfl (by kernel_rfl) NP HS (fun w S => (r_fa (off := 5) (F.t 80 rfl) fa73_2)) fun a F => ?_
           obtain ⟨_, hr, H⟩ := Hp.store (t := 4) (o := 5) (n := 1) (vs := [.bool true]) (cs' := [.pointer (some ⟨g3_, 0, none⟩), .int .i64 (IntKind.i64.wrap ((max x17 x27) + 1)), .slice A52 x50.length c53, .slice A55 x54.length c56, .slice none 0 0, .bool true, .int .i64 a0.from_, .bool a0.begun, .bool a0.broken]) (H) (F.t 81 rfl) (F.ev (x := .const (.bool true)) rfl) rfl sz4 rfl (Nat.le_of_ble_eq_true rfl) rfl rfl
           refine d1 6 rfl (by kernel_rfl) (qn F (.inl rfl) (hr _ _ _ _) fun a F => ?_)
           have HS := H.fx6.fx3.fx2.fx1.fx0
           refine kg _ HS (fun w S => S) ?_
           refine dq 7 F rfl (by kernel_rfl) NP HS (fun w S => (r_nc (F.t 77 rfl))) fun a F => ?_
           refine dq 8 F rfl (by kernel_rfl) NP HS (fun w S => (r_fa (off := 7) (F.t 82 rfl) fa73_4)) fun a F => ?_
           obtain ⟨_, hr, H⟩ := Hp.store (t := 4) (o := 7) (n := 1) (vs := [.bool true]) (cs' := [.pointer (some ⟨g3_, 0, none⟩), .int .i64 (IntKind.i64.wrap ((max x17 x27) + 1)), .slice A52 x50.length c53, .slice A55 x54.length c56, .slice none 0 0, .bool true, .int .i64 a0.from_, .bool true, .bool a0.broken]) (H) (F.t 83 rfl) (F.ev (x := .const (.bool true)) rfl) rfl sz4 rfl (Nat.le_of_ble_eq_true rfl) rfl rfl
           refine d1 9 rfl (by kernel_rfl) (qn F (.inl rfl) (hr _ _ _ _) fun a F => ?_)
           have HS := H.fx6.fx3.fx2.fx1.fx0
           refine kg _ HS (fun w S => S) ?_
           refine dq 10 F rfl (by kernel_rfl) NP HS (fun w S => (r_nc (F.t 78 rfl))) fun a F => ?_
           refine dq 11 F rfl (by kernel_rfl) NP HS (fun w S => (r_fa (off := 6) (F.t 84 rfl) fa73_3)) fun a F => ?_
           obtain ⟨_, hr, H⟩ := Hp.store (t := 3) (o := 6) (n := 1) (vs := [.int .i64 x30]) (cs' := [.pointer (some ⟨g3_, 0, none⟩), .int .i64 (IntKind.i64.wrap ((max x17 x27) + 1)), .slice A52 x50.length c53, .slice A55 x54.length c56, .slice none 0 0, .bool true, .int .i64 x30, .bool true, .bool a0.broken]) (H) (F.t 85 rfl) (F.t 79 rfl) rfl sz3 rfl (Nat.le_of_ble_eq_true rfl) rfl rfl
           refine d1 12 rfl (by kernel_rfl) (qn F (.inl rfl) (hr _ _ _ _) fun a F => ?_)
           have HS := H.fx6.fx3.fx2.fx1.fx0
           refine kg _ HS (fun w S => S) ?_
           refine ddone (by kernel_rfl) ?_
           replace F := F.only [6] (l' := [(6, .pointer (some ⟨g2, 0, none⟩))]) rfl
           refine rg ?_
           obtain ⟨_, hr, H⟩ := Hp.store (t := 36) (o := 0) (n := 1) (vs := [.int .i64 0]) (cs' := [.int .i64 0]) (H.f6.f6.f5.f5.f5.f5.f6) (F.t 6 rfl) (F.ev (x := .const (.int .i64 0)) rfl) rfl sz36 rfl (Nat.le_of_ble_eq_true rfl) rfl rfl
           refine ls (qn F (.inl rfl) (hr _ _ _ _) fun a F => ?_)
           refine rgend ?_
           refine wp_ret ?_
           have FO := F
           refine RET _ _ (retD FO Try.func41 rfl rfl ?_)
           refine inD (n := 7) (Nat.le_of_ble_eq_true rfl) rfl fun Q a NP RET NRM F => ?_
           replace NP : ∀ c a w, ¬ Q (.panic c) a w := fun c a w h => by obtain ⟨v, h, _⟩ := NP c a w h; cases h
           refine wp_region_lit ?_
           refine qw F (r_ld (F.t 1 rfl) (cel_cell (o := 0) (H.cell 5 rfl) rfl) one27) fun a F => ?_
           refine qw F (r_ld (F.t 0 rfl) (cel_cell (o := 0) (H.cell 0 rfl) rfl) one36) fun a F => ?_
           refine qw F (r_ne (F.t 3 rfl) (F.ev (x := .const (.int .i64 0)) rfl)) fun a F => ?_
           refine qw F (r_nc (F.t 2 rfl)) fun a F => ?_
           refine qw F (r_fa (off := 8) (F.t 5 rfl) fa73_5) fun a F => ?_
           obtain ⟨_, hr, H⟩ := Hp.store (t := 4) (o := 8) (n := 1) (vs := [.bool (decide (0 ≠ 0))]) (cs' := [.pointer (some ⟨g3_, 0, none⟩), .int .i64 (IntKind.i64.wrap ((max x17 x27) + 1)), .slice A52 x50.length c53, .slice A55 x54.length c56, .slice none 0 0, .bool true, .int .i64 x30, .bool true, .bool (decide (0 ≠ 0))]) (H.f6.f6.f6.f6.f6.f5.f6) (F.t 6 rfl) (F.t 4 rfl) rfl sz4 rfl (Nat.le_of_ble_eq_true rfl) rfl rfl
           refine ls (qn F (.inl rfl) (hr _ _ _ _) fun a F => ?_)
           refine wpList_nil ?_
           replace F := F.only [] (l' := []) rfl
           replace H := (H.f6.f6.f6.f5.f5.f5.f6).freeze
           replace H := (H.f5.f5.f5.f4.f4.f5).freeze
           replace H := H.nilOwn (kSlice kByte) 29
           replace H := Hp.closeO_store_Store (x := (⟨⟨IntKind.i64.wrap ((max x17 x27) + 1), x50, x54, []⟩, true, x30, true, decide (0 ≠ 0)⟩ : store_Store)) (H.f5.f5.f5.f5.f4.f5) 1 rfl 0 rfl
           try dsimp only at h
           obtain ⟨rfl, hx_0⟩ := Prod.mk.inj (Option.some.inj h)
           obtain ⟨rfl, rfl⟩ := Prod.mk.inj hx_0
           exact NRM _ _ (ret0 F rfl ⟨_, rfl, _, resC1 FO rfl rfl (ldv1 (cel_cell (o := 0) (H.cell 1 rfl) rfl) one36), ⟨_, rfl, rfl, H.px5.px4.px3.px2.px1.px0.fx3.fx2.fx1⟩⟩)
  ·rw [if_neg c12] at h
   rw [Bool.eq_false_iff.2 c12] at F
   refine wp_cond_true (F.ev rfl) ?_
   refine rg ?_
   obtain ⟨_, hr, H⟩ := Hp.store (t := 36) (o := 0) (n := 1) (vs := [.int .i64 1]) (cs' := [.int .i64 1]) (H.f4.f4.f3.f3.f4) (F.t 6 rfl) (F.ev (x := .const (.int .i64 1)) rfl) rfl sz36 rfl (Nat.le_of_ble_eq_true rfl) rfl rfl
   refine ls (qn F (.inl rfl) (hr _ _ _ _) fun a F => ?_)
   refine rgend ?_
   replace F := F.only [6] (l' := [(6, .pointer (some ⟨g2, 0, none⟩))]) rfl
   refine wp_ret ?_
   replace H := Hp.closeO_store_Store (x := a0) (H.f4.f4.f2.f4.f4) 0 rfl 1 rfl
   try dsimp only at h
   obtain ⟨rfl, hx_0⟩ := Prod.mk.inj (Option.some.inj h)
   obtain ⟨rfl, rfl⟩ := Prod.mk.inj hx_0
   exact RET _ _ (bpD (retC1 F rfl rfl (ldv1 (cel_cell (o := 0) (H.cell 1 rfl) rfl) one36) ⟨_, rfl, rfl, H.px3.px2.px1.px0.fx2.fx1⟩))
def store_Store_Append_f (a0 : store_Store) (a1 : List Int) (a2 : disk_Disk) : Option (Int × store_Store × disk_Disk) :=
 (((if a0.broken = true then some (43, a2, a0) else (if a0.begun = true then ((((((disk_Disk_Sectors_f a2).bind fun x21 => some ((IntKind.i64.wrap (x21.tdiv 2)))) : Option (Int)).bind fun x19 => ((region_Put_f a2 a0.from_ x19 a0.now a1).bind fun (x23, x24) => (((if x23 = 0 then ((slices_Clone_f a1).bind fun x29 => (if (a0.now.More.length + 1) * 24 ≤ 140737488355328 then some (((⟨⟨a0.now.Gen, a0.now.State, a0.now.Kept, (a0.now.More ++ ([x29]))⟩, a0.has_, a0.from_, a0.begun, a0.broken⟩ : store_Store))) else none)) else some a0) : Option (store_Store)).bind fun x26 => some (x23, x24, x26)))) : Option (Int × disk_Disk × store_Store)).bind fun (x15, x16, x17) => some (x15, x16, x17)) else some (43, a2, a0))) : Option (Int × disk_Disk × store_Store)).bind fun (x3, x4, x5) => some (x3, x5, x4))
set_option maxHeartbeats 4000000 in
set_option maxRecDepth 20000 in
theorem store_Store_Append_ok {w0 w : World} {ps : List PF} {fs : List SF} {a0 : store_Store} {g0_ : Nat} {a1 : List Int} {A1_ : Option Addr} {c1_ : Nat} {a2 : disk_Disk} {g2_ : Nat} {r0 : Int} {s0 : store_Store} {s2 : disk_Disk} (H : Hp w0 (rd kByte A1_ c1_ a1 :: ps) (obj_store_Store g0_ g2_ a0 :: obj_disk_Disk g2_ a2 :: fs) w) (h : store_Store_Append_f a0 a1 a2 = some (r0, s0, s2)) :
  Calls Try.prog 22 [.pointer (some ⟨g0_, 0, none⟩), .slice A1_ a1.length c1_].toArray w fun e w' => ∃ v, e = .returned v ∧ v = .int .i64 r0 ∧ Hp w0 ps (obj_store_Store g0_ g2_ s0 :: obj_disk_Disk g2_ s2 :: fs) w' := by
 refine enter [.pointer (some ⟨g0_, 0, none⟩), .slice A1_ a1.length c1_] 8 Try.func22 fun Q a NP RET NRM F => ?_
 replace NP : ∀ c a w, ¬ Q (.panic c) a w := fun c a w h => by rcases NP c a w h with h | ⟨w, v, h, _⟩ <;> cases h
 unfold store_Store_Append_f at h
 refine rg ?_
 refine ls (lbox F H rfl (cs := [.pointer (some ⟨g0_, 0, none⟩)]) rfl fun g1 w a H F => ?_)
 refine ls (lbox F H rfl (cs := [.slice A1_ a1.length c1_]) rfl fun g2 w a H F => ?_)
 refine as_ F (v := .int .i64 0) rfl fun a F => ?_
 refine rgend ?_
 refine rg ?_
 refine qw F (r_ld (F.t 2 rfl) (cel_cell (o := 0) (H.cell 1 rfl) rfl) one27) fun a F => ?_
 refine qw F (r_mf (f' := #[]) (c' := #[.pointer (some ⟨g1, 0, none⟩), .pointer (some ⟨g2, 0, none⟩)]) (by simp) (by rw [List.map_toArray]; exact congrArg _ (F.evs rfl))) fun a F => ?_
 obtain ⟨o_5, k_5, h⟩ := Option.bind_eq_some_iff.1 h
 refine ls (call F Try.func45 (R := fun v w => ∃ (x3 : Int) (x4 : disk_Disk) (x5 : store_Store), (x3, x4, x5) = o_5 ∧ v = .int .i64 x3 ∧ Hp w0 (rd kByte A1_ c1_ a1 :: ps) (obj_disk_Disk g2_ x4 :: cel g2 [.slice A1_ a1.length c1_] 29 :: obj_store_Store g0_ g2_ x5 :: cel g1 [.pointer (some ⟨g0_, 0, none⟩)] 27 :: fs) w) (args := [.pointer (some ⟨g0_, 0, none⟩), .func (.func 46) #[] #[.pointer (some ⟨g1, 0, none⟩), .pointer (some ⟨g2, 0, none⟩)]]) (cap := []) ?_ rfl rfl ?_)
 ·refine enter [.pointer (some ⟨g0_, 0, none⟩), .func (.func 46) #[] #[.pointer (some ⟨g1, 0, none⟩), .pointer (some ⟨g2, 0, none⟩)]] 18 Try.func45 fun Q a NP RET NRM F => ?_
  replace NP : ∀ c a w, ¬ Q (.panic c) a w := fun c a w h => by rcases NP c a w h with h | ⟨w, v, h, _⟩ <;> cases h
  refine rg ?_
  refine as_ F (v := .int .i64 0) rfl fun a F => ?_
  refine rgend ?_
  refine wp_seq ?_
  refine rg ?_
  refine mv F rfl fun a F => ?_
  refine qw F (r_nc (F.t 5 rfl)) fun a F => ?_
  refine qw F (r_fa (off := 8) (F.t 6 rfl) fa73_5) fun a F => ?_
  obtain ⟨A7, c8, A9, c10, A11, c12, H⟩ := Hp.openO_store_Store (H.f3.f2.f2.f3)
  refine qw F (r_ld (F.t 7 rfl) (cel_cell (o := 8) (H.cell 0 rfl) rfl) one4) fun a F => ?_
  refine mv F rfl fun a F => ?_
  by_cases c13 : a0.broken = true
  ·rw [if_pos c13] at k_5
   rw [c13] at F
   refine of_ F fun a F => ?_
   refine of_ F fun a F => ?_
   refine of_ F fun a F => ?_
   refine of_ F fun a F => ?_
   refine of_ F fun a F => ?_
   refine qw F (r_pickT (F.t 9 rfl) (F.ev (x := .const (.bool true)) rfl)) fun a F => ?_
   refine rgend ?_
   replace F := F.only [15, 1] (l' := [(15, .bool true), (1, .func (.func 46) #[] #[.pointer (some ⟨g1, 0, none⟩), .pointer (some ⟨g2, 0, none⟩)])]) rfl
   refine wp_cond_true (F.ev rfl) ?_
   refine rg ?_
   refine as_ F (v := .int .i64 43) rfl fun a F => ?_
   refine rgend ?_
   refine wp_ret ?_
   replace H := Hp.closeO_store_Store (x := a0) (H) 0 rfl 1 rfl
   try dsimp only at k_5
   obtain rfl := Option.some.inj k_5
   exact RET _ _ (ret1 F rfl rfl ⟨_, rfl, _, _, _, rfl, rfl, H.px1.px0.f2.f1.f2.f3⟩)
  ·rw [if_neg c13] at k_5
   rw [Bool.eq_false_iff.2 c13] at F
   refine mv F rfl fun a F => ?_
   refine qw F (r_nc (F.t 10 rfl)) fun a F => ?_
   refine qw F (r_fa (off := 7) (F.t 11 rfl) fa73_4) fun a F => ?_
   refine qw F (r_ld (F.t 12 rfl) (cel_cell (o := 7) (H.cell 0 rfl) rfl) one4) fun a F => ?_
   refine qw F (r_not (F.t 13 rfl)) fun a F => ?_
   refine qw F (r_pickF (F.t 9 rfl) (F.t 14 rfl)) fun a F => ?_
   refine rgend ?_
   replace F := F.only [15, 1] (l' := [(15, .bool (!a0.begun)), (1, .func (.func 46) #[] #[.pointer (some ⟨g1, 0, none⟩), .pointer (some ⟨g2, 0, none⟩)])]) rfl
   by_cases c14 : a0.begun = true
   ·rw [if_pos c14] at k_5
    rw [c14] at F
    refine wp_cond_false (F.ev rfl) ?_
    refine wp_skip ?_
    refine rg ?_
    refine mv F rfl fun a F => ?_
    obtain ⟨o_17, k_17, k_5⟩ := Option.bind_eq_some_iff.1 k_5
    refine ls (call F Try.func46 (R := fun v w => ∃ (x15 : Int) (x16 : disk_Disk) (x17 : store_Store), (x15, x16, x17) = o_17 ∧ v = .int .i64 x15 ∧ Hp w0 (rd kByte A1_ c1_ a1 :: ps) (obj_disk_Disk g2_ x16 :: cel g2 [.slice A1_ a1.length c1_] 29 :: obj_store_Store g0_ g2_ x17 :: cel g1 [.pointer (some ⟨g0_, 0, none⟩)] 27 :: fs) w) (args := [.pointer (some ⟨g1, 0, none⟩), .pointer (some ⟨g2, 0, none⟩)]) (cap := [.pointer (some ⟨g1, 0, none⟩), .pointer (some ⟨g2, 0, none⟩)]) ?_ rfl rfl ?_)
    ·refine enter [.pointer (some ⟨g1, 0, none⟩), .pointer (some ⟨g2, 0, none⟩)] 36 Try.func46 fun Q a NP RET NRM F => ?_
     replace NP : ∀ c a w, ¬ Q (.panic c) a w := fun c a w h => by rcases NP c a w h with h | ⟨w, v, h, _⟩ <;> cases h
     refine rg ?_
     refine as_ F (v := .int .i64 0) rfl fun a F => ?_
     refine rgend ?_
     refine wp_seq ?_
     replace H := H.drew
     have HS := H.fx4.fx1
     refine dr (fun w => Hp w0 (rd kByte A7 c8 a0.now.State :: rd (kSlice kByte) A9 c10 a0.now.Kept :: rd kByte A1_ c1_ a1 :: ps) (cel g0_ [.pointer (some ⟨g2_, 0, none⟩), .int .i64 a0.now.Gen, .slice A7 a0.now.State.length c8, .slice A9 a0.now.Kept.length c10, .slice A11 a0.now.More.length c12, .bool a0.has_, .int .i64 a0.from_, .bool a0.begun, .bool a0.broken] 73 :: cel g2 [.slice A1_ a1.length c1_] 29 :: cel g1 [.pointer (some ⟨g0_, 0, none⟩)] 27 :: fs) w) _ (by kernel_rfl) ?_ (n := 17)
     refine dq 0 F rfl (by kernel_rfl) NP HS (fun w S => (r_ld (F.t 0 rfl) (cel_cell (o := 0) (S.cell 2 rfl) rfl) one27)) fun a F => ?_
     refine dq 1 F rfl (by kernel_rfl) NP HS (fun w S => (r_nc (F.t 4 rfl))) fun a F => ?_
     refine dq 2 F rfl (by kernel_rfl) NP HS (fun w S => (r_fa (off := 0) (F.t 5 rfl) fa73_0)) fun a F => ?_
     refine dq 3 F rfl (by kernel_rfl) NP HS (fun w S => (r_ld (F.t 6 rfl) (cel_cell (o := 0) (S.cell 0 rfl) rfl) one24)) fun a F => ?_
     refine dq 4 F rfl (by kernel_rfl) NP HS (fun w S => (r_ld (F.t 0 rfl) (cel_cell (o := 0) (S.cell 2 rfl) rfl) one27)) fun a F => ?_
     refine dq 5 F rfl (by kernel_rfl) NP HS (fun w S => (r_nc (F.t 8 rfl))) fun a F => ?_
     refine dq 6 F rfl (by kernel_rfl) NP HS (fun w S => (r_fa (off := 6) (F.t 9 rfl) fa73_3)) fun a F => ?_
     refine dq 7 F rfl (by kernel_rfl) NP HS (fun w S => (r_ld (F.t 10 rfl) (cel_cell (o := 6) (S.cell 0 rfl) rfl) one3)) fun a F => ?_
     refine dq 8 F rfl (by kernel_rfl) NP HS (fun w S => (r_ld (F.t 0 rfl) (cel_cell (o := 0) (S.cell 2 rfl) rfl) one27)) fun a F => ?_
     refine dq 10 F rfl (by kernel_rfl) NP HS (fun w S => (r_ld (F.t 0 rfl) (cel_cell (o := 0) (S.cell 2 rfl) rfl) one27)) fun a F => ?_
     refine dq 11 F rfl (by kernel_rfl) NP HS (fun w S => (r_nc (F.t 14 rfl))) fun a F => ?_
     refine dq 12 F rfl (by kernel_rfl) NP HS (fun w S => (r_fa (off := 1) (F.t 15 rfl) fa73_1)) fun a F => ?_
     refine dq 13 F rfl (by kernel_rfl) NP HS (fun w S => (r_ldA (F.t 16 rfl) (cel_range (o := 1) (n := 4) (vs := [.int .i64 a0.now.Gen, .slice A7 a0.now.State.length c8, .slice A9 a0.now.Kept.length c10, .slice A11 a0.now.More.length c12]) (S.cell 0 rfl) rfl) agg32 rfl)) fun a F => ?_
     refine dq 14 F rfl (by kernel_rfl) NP HS (fun w S => (r_ld (F.t 1 rfl) (cel_cell (o := 0) (S.cell 1 rfl) rfl) one29)) fun a F => ?_
     obtain ⟨o_19, k_19, k_17⟩ := Option.bind_eq_some_iff.1 k_17
     refine d1 9 rfl (by kernel_rfl) (call F Try.func36 (R := fun v w => ∃ (x19 : Int), x19 = o_19 ∧ v = .int .i64 x19 ∧ Hp w0 (rd kByte A7 c8 a0.now.State :: rd (kSlice kByte) A9 c10 a0.now.Kept :: rd kByte A1_ c1_ a1 :: ps) (own (kSlice kByte) 29 A11 c12 a0.now.More :: obj_disk_Disk g2_ a2 :: cel g2 [.slice A1_ a1.length c1_] 29 :: cel g0_ [.pointer (some ⟨g2_, 0, none⟩), .int .i64 a0.now.Gen, .slice A7 a0.now.State.length c8, .slice A9 a0.now.Kept.length c10, .slice A11 a0.now.More.length c12, .bool a0.has_, .int .i64 a0.from_, .bool a0.begun, .bool a0.broken] 73 :: cel g1 [.pointer (some ⟨g0_, 0, none⟩)] 27 :: fs) w) (args := [.pointer (some ⟨g0_, 0, none⟩)]) (cap := []) ?_ rfl rfl ?_)
     ·refine enter [.pointer (some ⟨g0_, 0, none⟩)] 9 Try.func36 fun Q a NP RET NRM F => ?_
      replace NP : ∀ c a w, ¬ Q (.panic c) a w := fun c a w h => by rcases NP c a w h with h | ⟨w, v, h, _⟩ <;> cases h
      refine rg ?_
      refine as_ F (v := .int .i64 0) rfl fun a F => ?_
      refine rgend ?_
      refine rg ?_
      refine mv F rfl fun a F => ?_
      refine qw F (r_nc (F.t 3 rfl)) fun a F => ?_
      refine qw F (r_fa (off := 0) (F.t 4 rfl) fa73_0) fun a F => ?_
      refine qw F (r_ld (F.t 5 rfl) (cel_cell (o := 0) (H.cell 0 rfl) rfl) one24) fun a F => ?_
      obtain ⟨x21, e22, k_19⟩ := Option.bind_eq_some_iff.1 k_19
      try dsimp only at k_19
      refine ls (call F Try.func76 (disk_Disk_Sectors_ok (H.f3.f3.f3.f3.f4) e22) rfl rfl fun v w hR a F => ?_)
      obtain ⟨rfl, H⟩ := hR
      refine qw F (r_quo (F.t 7 rfl) (F.ev (x := .const (.int .i64 2)) rfl) (by decide)) fun a F => ?_
      refine as_ F rfl fun a F => ?_
      refine rgend ?_
      replace F := F.only [2] (l' := [(2, .int .i64 (IntKind.i64.wrap (x21.tdiv 2)))]) rfl
      refine wp_ret ?_
      try dsimp only at k_19
      obtain rfl := Option.some.inj k_19
      exact RET _ _ (ret1 F rfl rfl ⟨_, rfl, _, rfl, rfl, H.f4.f2.f4.f3.f4⟩)
     ·rintro v w ⟨x19, rfl, rfl, H⟩ a F
      try dsimp only at k_17 F H
      have HS := H.f4.f3.f4.fx4.fx3
      refine kg _ HS (fun w S => S) ?_
      obtain ⟨⟨x23, x24⟩, e25, k_17⟩ := Option.bind_eq_some_iff.1 k_17
      try dsimp only at k_17
      refine d1 15 rfl (by kernel_rfl) (call F Try.func47 (region_Put_ok (a3 := a0.now) (H.p2.f4.f4.f4.f3.f4) e25) rfl rfl fun v w hR a F => ?_)
      obtain ⟨rfl, H⟩ := hR
      have HS := H.f4.f3.f4.fx4.fx3
      refine kg _ HS (fun w S => S) ?_
      refine dq 16 F rfl (by kernel_rfl) NP HS (fun w S => (r_as (F.t 19 rfl))) fun a F => ?_
      refine ddone (by kernel_rfl) ?_
      replace F := F.only [3, 0, 1] (l' := [(3, .int .i64 x23), (0, .pointer (some ⟨g1, 0, none⟩)), (1, .pointer (some ⟨g2, 0, none⟩))]) rfl
      refine wp_seq ?_
      refine rg ?_
      refine mv F rfl fun a F => ?_
      refine qw F (r_eq (F.t 20 rfl) (F.ev (x := .const (.int .i64 0)) rfl)) fun a F => ?_
      refine rgend ?_
      obtain ⟨o_26, k_26, k_17⟩ := Option.bind_eq_some_iff.1 k_17
      refine cut (fun a w => ∃ (x26 : store_Store), x26 = o_26 ∧ Fr 36 [] [(3, .int .i64 x23)] a ∧ Hp w0 (rd kByte A1_ c1_ a1 :: ps) (obj_disk_Disk g2_ x24 :: cel g2 [.slice A1_ a1.length c1_] 29 :: obj_store_Store g0_ g2_ x26 :: cel g1 [.pointer (some ⟨g0_, 0, none⟩)] 27 :: fs) w) ?_ ?_
      ·skip
       by_cases c28 : x23 = 0
       ·rw [if_pos c28] at k_26
        rw [decide_eq_true c28] at F
        refine wp_cond_true (F.ev rfl) ?_
        replace H := H.drew
        have HS := H.fx1.fx0
        refine dr (fun w => Hp w0 (rd kByte A7 c8 a0.now.State :: rd (kSlice kByte) A9 c10 a0.now.Kept :: rd kByte A1_ c1_ a1 :: ps) (cel g2 [.slice A1_ a1.length c1_] 29 :: cel g0_ [.pointer (some ⟨g2_, 0, none⟩), .int .i64 a0.now.Gen, .slice A7 a0.now.State.length c8, .slice A9 a0.now.Kept.length c10, .slice A11 a0.now.More.length c12, .bool a0.has_, .int .i64 a0.from_, .bool a0.begun, .bool a0.broken] 73 :: cel g1 [.pointer (some ⟨g0_, 0, none⟩)] 27 :: fs) w) _ (by kernel_rfl) ?_ (n := 14)
        refine dq 0 F rfl (by kernel_rfl) NP HS (fun w S => (r_ld (F.t 0 rfl) (cel_cell (o := 0) (S.cell 2 rfl) rfl) one27)) fun a F => ?_
        refine dq 1 F rfl (by kernel_rfl) NP HS (fun w S => (r_ld (F.t 0 rfl) (cel_cell (o := 0) (S.cell 2 rfl) rfl) one27)) fun a F => ?_
        refine dq 2 F rfl (by kernel_rfl) NP HS (fun w S => (r_nc (F.t 23 rfl))) fun a F => ?_
        refine dq 3 F rfl (by kernel_rfl) NP HS (fun w S => (r_fa (off := 1) (F.t 24 rfl) fa73_1)) fun a F => ?_
        refine dq 4 F rfl (by kernel_rfl) NP HS (fun w S => (r_fa (off := 3) (F.t 25 rfl) fa32_3)) fun a F => ?_
        refine dq 5 F rfl (by kernel_rfl) NP HS (fun w S => (r_ld (F.t 26 rfl) (cel_cell (o := 4) (S.cell 1 rfl) rfl) one30)) fun a F => ?_
        refine dq 6 F rfl (by kernel_rfl) NP HS (fun w S => (r_ld (F.t 1 rfl) (cel_cell (o := 0) (S.cell 0 rfl) rfl) one29)) fun a F => ?_
        obtain ⟨x29, e30, k_26⟩ := Option.bind_eq_some_iff.1 k_26
        try dsimp only at k_26
        refine d1 7 rfl (by kernel_rfl) (call F Try.func39 (slices_Clone_ok (H.p2) e30) rfl rfl fun v w hR a F => ?_)
        obtain ⟨A31, c32, rfl, H⟩ := hR
        have HS := H.fx2.fx1.fx0
        refine kg _ HS (fun w S => S) ?_
        replace H := (H).freeze
        have HS := H.fx1.fx0
        refine dmoreH HS (fun w S => S.px0) ?_
        refine d1 8 rfl (by kernel_rfl) (lbs F H (e := 29) (vs := [(0, .slice A31 x29.length c32)]) (cs := [.slice A31 x29.length c32]) rfl (fun w => by kernel_rfl) fun g33 w a H F => ?_)
        have HS := H.fx2.fx1.fx0
        refine kg _ HS (fun w S => S) ?_
        obtain ⟨c34, k_26⟩ := guardO k_26
        obtain ⟨A35, c36, _, hr, H⟩ := Hp.appendCelL (kd := (kSlice kByte)) (xs := a0.now.More) (ys := [x29]) (H.f5.f5.f5.f4.f4.f5) (F.t 27 rfl) (F.t 30 rfl) Try.underlying30 ti29 rfl (by decide) (by decide) rfl ((SayL.cons (kd := (kSlice kByte)) (c1 := [.slice A31 x29.length c32]) (y := x29) (fun Z hp => ⟨A31, c32, rfl, pat hp 0 rfl⟩) SayL.nil)) c34
        refine d1 9 rfl (by kernel_rfl) (qv F (hr _ _ _ _ _) fun a F => ?_)
        have HS := H.fx1.fx0
        refine kg _ HS (fun w S => S) ?_
        refine dq 10 F rfl (by kernel_rfl) NP HS (fun w S => (r_nc (F.t 22 rfl))) fun a F => ?_
        refine dq 11 F rfl (by kernel_rfl) NP HS (fun w S => (r_fa (off := 1) (F.t 32 rfl) fa73_1)) fun a F => ?_
        refine dq 12 F rfl (by kernel_rfl) NP HS (fun w S => (r_fa (off := 3) (F.t 33 rfl) fa32_3)) fun a F => ?_
        obtain ⟨_, hr, H⟩ := Hp.store (t := 30) (o := 4) (n := 1) (vs := [.slice A35 ((a0.now.More ++ ([x29]))).length c36]) (cs' := [.pointer (some ⟨g2_, 0, none⟩), .int .i64 a0.now.Gen, .slice A7 a0.now.State.length c8, .slice A9 a0.now.Kept.length c10, .slice A35 ((a0.now.More ++ ([x29]))).length c36, .bool a0.has_, .int .i64 a0.from_, .bool a0.begun, .bool a0.broken]) (H.f4.f3.f3.f3.f4) (F.t 34 rfl) (F.t 31 rfl) rfl sz30 rfl (Nat.le_of_ble_eq_true rfl) rfl rfl
        refine d1 13 rfl (by kernel_rfl) (qn F (.inl rfl) (hr _ _ _ _) fun a F => ?_)
        have HS := H.fx2.fx1
        refine kga (by kernel_rfl) HS ?_
        refine ddone (by kernel_rfl) ?_
        replace F := F.only [3] (l' := [(3, .int .i64 x23)]) rfl
        replace H := Hp.closeO_store_Store (x := (⟨⟨a0.now.Gen, a0.now.State, a0.now.Kept, (a0.now.More ++ ([x29]))⟩, a0.has_, a0.from_, a0.begun, a0.broken⟩ : store_Store)) (H) 1 rfl 2 rfl
        try dsimp only at k_26
        obtain rfl := Option.some.inj k_26
        exact ⟨_, rfl, F.only [3] rfl, H.px2.px1.px0.f3.f1.f3.f3⟩
       ·rw [if_neg c28] at k_26
        rw [decide_eq_false c28] at F
        refine wp_cond_false (F.ev rfl) ?_
        refine wp_skip ?_
        replace H := Hp.closeO_store_Store (x := a0) (H.f4.f3.f2.f3.f4) 0 rfl 1 rfl
        try dsimp only at k_26
        obtain rfl := Option.some.inj k_26
        exact ⟨_, rfl, F.only [3] rfl, H.px1.px0.f3.f1.f3.f3⟩
      ·rintro a w ⟨x26, rfl, F, H⟩
       try dsimp only at k_17 F H
       refine rg ?_
       refine mv F rfl fun a F => ?_
       refine as_ F rfl fun a F => ?_
       refine rgend ?_
       refine wp_ret ?_
       try dsimp only at k_17
       obtain rfl := Option.some.inj k_17
       exact RET _ _ (ret1 F rfl rfl ⟨_, rfl, _, _, _, rfl, rfl, H⟩)
    ·rintro v w ⟨x15, x16, x17, rfl, rfl, H⟩ a F
     try dsimp only at k_5 F H
     refine as_ F rfl fun a F => ?_
     refine rgend ?_
     replace F := F.only [4] (l' := [(4, .int .i64 x15)]) rfl
     refine wp_ret ?_
     try dsimp only at k_5
     obtain rfl := Option.some.inj k_5
     exact RET _ _ (ret1 F rfl rfl ⟨_, rfl, _, _, _, rfl, rfl, H⟩)
   ·rw [if_neg c14] at k_5
    rw [Bool.eq_false_iff.2 c14] at F
    refine wp_cond_true (F.ev rfl) ?_
    refine rg ?_
    refine as_ F (v := .int .i64 43) rfl fun a F => ?_
    refine rgend ?_
    refine wp_ret ?_
    replace H := Hp.closeO_store_Store (x := a0) (H) 0 rfl 1 rfl
    try dsimp only at k_5
    obtain rfl := Option.some.inj k_5
    exact RET _ _ (ret1 F rfl rfl ⟨_, rfl, _, _, _, rfl, rfl, H.px1.px0.f2.f1.f2.f3⟩)
 ·rintro v w ⟨x3, x4, x5, rfl, rfl, H⟩ a F
  try dsimp only at h F H
  refine as_ F rfl fun a F => ?_
  refine rgend ?_
  replace F := F.only [4] (l' := [(4, .int .i64 x3)]) rfl
  refine wp_ret ?_
  try dsimp only at h
  obtain ⟨rfl, hx_0⟩ := Prod.mk.inj (Option.some.inj h)
  obtain ⟨rfl, rfl⟩ := Prod.mk.inj hx_0
  exact RET _ _ (ret1 F rfl rfl ⟨_, rfl, rfl, H.px0.f2.fx3.fx2⟩)
def store_Store_Sync_f (a0 : store_Store) (a1 : disk_Disk) : Option (Int × disk_Disk) :=
 (((if a0.broken = true then some (43, a1) else (if a0.begun = true then ((disk_Disk_Sync_f a1).bind fun (x12, x13) => some (x12, x13)) else some (43, a1))) : Option (Int × disk_Disk)).bind fun (x7, x8) => some (x7, x8))
set_option maxHeartbeats 4000000 in
set_option maxRecDepth 20000 in
theorem store_Store_Sync_ok {w0 w : World} {ps : List PF} {fs : List SF} {a0 : store_Store} {g0_ : Nat} {a1 : disk_Disk} {g1_ : Nat} {r0 : Int} {s1 : disk_Disk} (H : Hp w0 ps (obj_store_Store g0_ g1_ a0 :: obj_disk_Disk g1_ a1 :: fs) w) (h : store_Store_Sync_f a0 a1 = some (r0, s1)) :
  Calls Try.prog 23 [.pointer (some ⟨g0_, 0, none⟩)].toArray w fun e w' => ∃ v, e = .returned v ∧ v = .int .i64 r0 ∧ Hp w0 ps (obj_store_Store g0_ g1_ a0 :: obj_disk_Disk g1_ s1 :: fs) w' := by
 refine enter [.pointer (some ⟨g0_, 0, none⟩)] 10 Try.func23 fun Q a NP RET NRM F => ?_
 replace NP : ∀ c a w, ¬ Q (.panic c) a w := fun c a w h => by rcases NP c a w h with h | ⟨w, v, h, _⟩ <;> cases h
 unfold store_Store_Sync_f at h
 refine rg ?_
 refine as_ F (v := .int .i64 0) rfl fun a F => ?_
 refine rgend ?_
 refine rg ?_
 refine mv F rfl fun a F => ?_
 refine mv F rfl fun a F => ?_
 refine qw F (r_nc (F.t 4 rfl)) fun a F => ?_
 refine qw F (r_fa (off := 0) (F.t 5 rfl) fa73_0) fun a F => ?_
 obtain ⟨A1, c2, A3, c4, A5, c6, H⟩ := Hp.openO_store_Store (H)
 refine qw F (r_ld (F.t 6 rfl) (cel_cell (o := 0) (H.cell 0 rfl) rfl) one24) fun a F => ?_
 refine qw F (r_mf (f' := #[.pointer (some ⟨g1_, 0, none⟩)]) (c' := #[]) (by rw [List.map_toArray]; exact congrArg _ (F.evs rfl)) (by rw [List.map_toArray]; exact congrArg _ (F.evs rfl))) fun a F => ?_
 obtain ⟨o_8, k_8, h⟩ := Option.bind_eq_some_iff.1 h
 refine ls (call F Try.func45 (R := fun v w => ∃ (x7 : Int) (x8 : disk_Disk), (x7, x8) = o_8 ∧ v = .int .i64 x7 ∧ Hp w0 ps (obj_disk_Disk g1_ x8 :: obj_store_Store g0_ g1_ a0 :: fs) w) (args := [.pointer (some ⟨g0_, 0, none⟩), .func (.func 29) #[.pointer (some ⟨g1_, 0, none⟩)] #[]]) (cap := []) ?_ rfl rfl ?_)
 ·refine enter [.pointer (some ⟨g0_, 0, none⟩), .func (.func 29) #[.pointer (some ⟨g1_, 0, none⟩)] #[]] 18 Try.func45 fun Q a NP RET NRM F => ?_
  replace NP : ∀ c a w, ¬ Q (.panic c) a w := fun c a w h => by rcases NP c a w h with h | ⟨w, v, h, _⟩ <;> cases h
  refine rg ?_
  refine as_ F (v := .int .i64 0) rfl fun a F => ?_
  refine rgend ?_
  refine wp_seq ?_
  refine rg ?_
  refine mv F rfl fun a F => ?_
  refine qw F (r_nc (F.t 5 rfl)) fun a F => ?_
  refine qw F (r_fa (off := 8) (F.t 6 rfl) fa73_5) fun a F => ?_
  refine qw F (r_ld (F.t 7 rfl) (cel_cell (o := 8) (H.cell 0 rfl) rfl) one4) fun a F => ?_
  refine mv F rfl fun a F => ?_
  by_cases c10 : a0.broken = true
  ·rw [if_pos c10] at k_8
   rw [c10] at F
   refine of_ F fun a F => ?_
   refine of_ F fun a F => ?_
   refine of_ F fun a F => ?_
   refine of_ F fun a F => ?_
   refine of_ F fun a F => ?_
   refine qw F (r_pickT (F.t 9 rfl) (F.ev (x := .const (.bool true)) rfl)) fun a F => ?_
   refine rgend ?_
   replace F := F.only [15, 1] (l' := [(15, .bool true), (1, .func (.func 29) #[.pointer (some ⟨g1_, 0, none⟩)] #[])]) rfl
   refine wp_cond_true (F.ev rfl) ?_
   refine rg ?_
   refine as_ F (v := .int .i64 43) rfl fun a F => ?_
   refine rgend ?_
   refine wp_ret ?_
   replace H := Hp.closeO_store_Store (x := a0) (H) 0 rfl 1 rfl
   try dsimp only at k_8
   obtain rfl := Option.some.inj k_8
   exact RET _ _ (ret1 F rfl rfl ⟨_, rfl, _, _, rfl, rfl, H.px1.px0.f1⟩)
  ·rw [if_neg c10] at k_8
   rw [Bool.eq_false_iff.2 c10] at F
   refine mv F rfl fun a F => ?_
   refine qw F (r_nc (F.t 10 rfl)) fun a F => ?_
   refine qw F (r_fa (off := 7) (F.t 11 rfl) fa73_4) fun a F => ?_
   refine qw F (r_ld (F.t 12 rfl) (cel_cell (o := 7) (H.cell 0 rfl) rfl) one4) fun a F => ?_
   refine qw F (r_not (F.t 13 rfl)) fun a F => ?_
   refine qw F (r_pickF (F.t 9 rfl) (F.t 14 rfl)) fun a F => ?_
   refine rgend ?_
   replace F := F.only [15, 1] (l' := [(15, .bool (!a0.begun)), (1, .func (.func 29) #[.pointer (some ⟨g1_, 0, none⟩)] #[])]) rfl
   by_cases c11 : a0.begun = true
   ·rw [if_pos c11] at k_8
    rw [c11] at F
    refine wp_cond_false (F.ev rfl) ?_
    refine wp_skip ?_
    refine rg ?_
    refine mv F rfl fun a F => ?_
    obtain ⟨⟨x12, x13⟩, e14, k_8⟩ := Option.bind_eq_some_iff.1 k_8
    try dsimp only at k_8
    refine ls (callF F Try.func29 (disk_Disk_Sync_ok (H.f1.f1.f2) e14) rfl rfl fun v w hR a F => ?_)
    obtain ⟨rfl, H⟩ := hR
    refine as_ F rfl fun a F => ?_
    refine rgend ?_
    replace F := F.only [4] (l' := [(4, .int .i64 x12)]) rfl
    refine wp_ret ?_
    replace H := Hp.closeO_store_Store (x := a0) (H.f2.f2) 0 rfl 1 rfl
    try dsimp only at k_8
    obtain rfl := Option.some.inj k_8
    exact RET _ _ (ret1 F rfl rfl ⟨_, rfl, _, _, rfl, rfl, H.px1.px0.f1⟩)
   ·rw [if_neg c11] at k_8
    rw [Bool.eq_false_iff.2 c11] at F
    refine wp_cond_true (F.ev rfl) ?_
    refine rg ?_
    refine as_ F (v := .int .i64 43) rfl fun a F => ?_
    refine rgend ?_
    refine wp_ret ?_
    replace H := Hp.closeO_store_Store (x := a0) (H) 0 rfl 1 rfl
    try dsimp only at k_8
    obtain rfl := Option.some.inj k_8
    exact RET _ _ (ret1 F rfl rfl ⟨_, rfl, _, _, rfl, rfl, H.px1.px0.f1⟩)
 ·rintro v w ⟨x7, x8, rfl, rfl, H⟩ a F
  try dsimp only at h F H
  refine as_ F rfl fun a F => ?_
  refine rgend ?_
  replace F := F.only [2] (l' := [(2, .int .i64 x7)]) rfl
  refine wp_ret ?_
  try dsimp only at h
  obtain ⟨rfl, rfl⟩ := Prod.mk.inj (Option.some.inj h)
  exact RET _ _ (ret1 F rfl rfl ⟨_, rfl, rfl, H.f1⟩)
def law18_Great_b1 (a0 : List law18_Op) (x2 : Int) : (Int × Int) → Option (Int × Int ⊕ Int)
 | (x57, x58) => (((if 0 ≤ x2 ∧ x2 < (a0.length : Int) then (if x58 < (((a0.getD (x2 : Int).toNat (⟨0, [], [], [], 0, []⟩ : law18_Op)).Kept).length : Int) then some ((decide (x57 < 9000))) else some false) else none) : Option (Bool)).bind fun x61 => (if x61 = true then (if 0 ≤ x2 ∧ x2 < (a0.length : Int) then (if 0 ≤ x58 ∧ x58 < (((a0.getD (x2 : Int).toNat (⟨0, [], [], [], 0, []⟩ : law18_Op)).Kept).length : Int) then some (.inl (IntKind.i64.wrap (x57 + (min (((((a0.getD (x2 : Int).toNat (⟨0, [], [], [], 0, []⟩ : law18_Op)).Kept).getD (x58 : Int).toNat [])).length : Int) 9000)), IntKind.i64.wrap (x58 + 1))) else none) else none) else some (.inr x57)))
def law18_Great_b0 (a0 : List law18_Op) : (Int × Int) → Option (Int × Int ⊕ Int)
 | (x1, x2) => (((if x2 < (a0.length : Int) then some ((decide (x1 < 9000))) else some false) : Option (Bool)).bind fun x5 => (if x5 = true then (if 0 ≤ x2 ∧ x2 < (a0.length : Int) then (if 0 ≤ x2 ∧ x2 < (a0.length : Int) then (if 0 ≤ x2 ∧ x2 < (a0.length : Int) then (if 0 ≤ x2 ∧ x2 < (a0.length : Int) then ((lp (law18_Great_b1 a0 x2) (IntKind.i64.wrap ((IntKind.i64.wrap ((IntKind.i64.wrap ((IntKind.i64.wrap (x1 + (min (((a0.getD (x2 : Int).toNat (⟨0, [], [], [], 0, []⟩ : law18_Op)).State).length : Int) 9000))) + (min (((a0.getD (x2 : Int).toNat (⟨0, [], [], [], 0, []⟩ : law18_Op)).Entry).length : Int) 9000))) + (min (((a0.getD (x2 : Int).toNat (⟨0, [], [], [], 0, []⟩ : law18_Op)).Keep).length : Int) 9000))) + (min (((a0.getD (x2 : Int).toNat (⟨0, [], [], [], 0, []⟩ : law18_Op)).Kept).length : Int) 9000)), 0)).bind fun x59 => some (.inl (x59, IntKind.i64.wrap (x2 + 1)))) else none) else none) else none) else none) else some (.inr x1)))
def law18_Great_f (a0 : List law18_Op) : Option (Bool) :=
 ((lp (law18_Great_b0 a0) ((a0.length : Int), 0)).bind fun x3 => (((if x3 ≥ 9000 then some true else some ((decide ((a0.length : Int) > 60)))) : Option (Bool)).bind fun x95 => some x95))
set_option maxHeartbeats 4000000 in
set_option maxRecDepth 20000 in
theorem law18_Great_ok {w0 w : World} {ps : List PF} {fs : List SF} {a0 : List law18_Op} {A0_ : Option Addr} {c0_ : Nat} {r0 : Bool} (H : Hp w0 (rd k_law18_Op A0_ c0_ a0 :: ps) fs w) (h : law18_Great_f a0 = some r0) :
  Calls Try.prog 12 [.slice A0_ a0.length c0_].toArray w fun e w' => ∃ v, e = .returned v ∧ v = .bool r0 ∧ Hp w0 ps fs w' := by
 refine enter [.slice A0_ a0.length c0_] 84 Try.func12 fun Q a NP RET NRM F => ?_
 replace NP : ∀ c a w, ¬ Q (.panic c) a w := fun c a w h => by rcases NP c a w h with h | ⟨w, v, h, _⟩ <;> cases h
 unfold law18_Great_f at h
 refine rg ?_
 refine as_ F (v := .bool false) rfl fun a F => ?_
 refine rgend ?_
 refine rg ?_
 refine mv F rfl fun a F => ?_
 refine qw F (r_len (F.t 6 rfl) Try.underlying22) fun a F => ?_
 refine as_ F rfl fun a F => ?_
 refine rgend ?_
 refine wp_seq ?_
 refine rg ?_
 refine as_ F (v := .int .i64 0) rfl fun a F => ?_
 refine rgend ?_
 obtain ⟨o_3, k_3, h⟩ := Option.bind_eq_some_iff.1 h
 refine cut (fun a w => ∃ (x3 : Int), x3 = o_3 ∧ Fr 84 [] [(0, .slice A0_ a0.length c0_), (3, .int .i64 x3)] a ∧ Hp w0 (rd k_law18_Op A0_ c0_ a0 :: ps) fs w) (wp_block ?_) ?_
 ·refine wloop (law18_Great_b0 a0) (fun (s : Int × Int) a w => Fr 84 [] [(0, .slice A0_ a0.length c0_), (3, .int .i64 s.1), (4, .int .i64 s.2)] a ∧ Hp w0 (rd k_law18_Op A0_ c0_ a0 :: ps) fs w) k_3 ⟨F.only [0, 3, 4] rfl, H⟩ ?_
  rintro ⟨x1, x2⟩ a w q_3 j_3 u_3 ⟨F, H⟩
  unfold law18_Great_b0 at j_3
  try dsimp only at j_3 F H
  refine wp_seq ?_
  refine wp_seq ?_
  obtain ⟨o_5, k_5, j_3⟩ := Option.bind_eq_some_iff.1 j_3
  refine cut (fun a w => ∃ (x5 : Bool), x5 = o_5 ∧ Fr 84 [] [(0, .slice A0_ a0.length c0_), (3, .int .i64 x1), (4, .int .i64 x2), (15, .bool x5)] a ∧ Hp w0 (rd k_law18_Op A0_ c0_ a0 :: ps) fs w) ?_ ?_
  ·skip
   refine wp_region_lit ?_
   refine mv F rfl fun a F => ?_
   refine mv F rfl fun a F => ?_
   refine qw F (r_len (F.t 9 rfl) Try.underlying22) fun a F => ?_
   refine qw F (r_lt (F.t 8 rfl) (F.t 10 rfl)) fun a F => ?_
   refine mv F rfl fun a F => ?_
   by_cases c7 : x2 < (a0.length : Int)
   ·rw [if_pos c7] at k_5
    rw [decide_eq_true c7] at F
    refine mv F rfl fun a F => ?_
    refine qw F (r_lt (F.t 13 rfl) (F.ev (x := .const (.int .i64 9000)) rfl)) fun a F => ?_
    refine qw F (r_pickT (F.t 12 rfl) (F.t 14 rfl)) fun a F => ?_
    refine wpList_nil ?_
    replace F := F.only [15, 0, 3, 4] (l' := [(15, .bool (decide (x1 < 9000))), (0, .slice A0_ a0.length c0_), (3, .int .i64 x1), (4, .int .i64 x2)]) rfl
    try dsimp only at k_5
    obtain rfl := Option.some.inj k_5
    exact ⟨_, rfl, F.only [0, 3, 4, 15] rfl, H⟩
   ·rw [if_neg c7] at k_5
    rw [decide_eq_false c7] at F
    refine of_ F fun a F => ?_
    refine of_ F fun a F => ?_
    refine qw F (r_pickF (F.t 12 rfl) (F.ev (x := .const (.bool false)) rfl)) fun a F => ?_
    refine wpList_nil ?_
    replace F := F.only [15, 0, 3, 4] (l' := [(15, .bool false), (0, .slice A0_ a0.length c0_), (3, .int .i64 x1), (4, .int .i64 x2)]) rfl
    try dsimp only at k_5
    obtain rfl := Option.some.inj k_5
    exact ⟨_, rfl, F.only [0, 3, 4, 15] rfl, H⟩
  ·rintro a w ⟨x5, rfl, F, H⟩
   try dsimp only at j_3 F H
   by_cases c8 : x5 = true
   ·rw [if_pos c8] at j_3
    rw [c8] at F
    refine wp_cond_true (F.ev rfl) ?_
    refine wp_skip ?_
    refine wp_seq ?_
    refine wp_block ?_
    refine wp_seq ?_
    replace H := H.drew
    have HS := H
    refine dr (fun w => Hp w0 (rd k_law18_Op A0_ c0_ a0 :: ps) fs w) _ (by kernel_rfl) ?_ (n := 34)
    refine dq 0 F rfl (by kernel_rfl) NP HS (fun w S => (r_mv (F.t 3 rfl))) fun a F => ?_
    refine dq 1 F rfl (by kernel_rfl) NP HS (fun w S => (r_mv (F.t 0 rfl))) fun a F => ?_
    refine dq 2 F rfl (by kernel_rfl) NP HS (fun w S => (r_mv (F.t 4 rfl))) fun a F => ?_
    obtain ⟨c9, j_3⟩ := guardO j_3
    obtain ⟨g10, o11, s12, hr, H⟩ := H.ix (⟨0, [], [], [], 0, []⟩ : law18_Op) 0 rfl (F.t 19 rfl) (F.t 20 rfl) Try.underlying22 sz35 (by decide) c9.1 c9.2
    obtain ⟨A13, c14, A15, c16, A17, c18, A19, c20, rfl, H⟩ := H.open_law18_Op 1 rfl
    have HS := H
    refine dmoreH HS (fun w S => S.px5.px4.px3.px2.px1.px0) ?_
    refine dq 3 F rfl (by kernel_rfl) NP HS (fun w S => (hr _ _ _ _ _ _)) fun a F => ?_
    refine dq 4 F rfl (by kernel_rfl) NP HS (fun w S => (r_fa (off := 1) (F.t 21 rfl) fa35_1)) fun a F => ?_
    refine dq 5 F rfl (by kernel_rfl) NP HS (fun w S => (r_ld (F.t 22 rfl) (range_cell (j := 1) (S.range 4 rfl) rfl) one29)) fun a F => ?_
    refine dq 6 F rfl (by kernel_rfl) NP HS (fun w S => (r_len (F.t 23 rfl) Try.underlying29)) fun a F => ?_
    refine dq 7 F rfl (by kernel_rfl) NP HS (fun w S => (r_min (F.t 24 rfl) (F.ev (x := .const (.int .i64 9000)) rfl))) fun a F => ?_
    refine dq 8 F rfl (by kernel_rfl) NP HS (fun w S => (r_add (F.t 18 rfl) (F.t 25 rfl))) fun a F => ?_
    refine dq 9 F rfl (by kernel_rfl) NP HS (fun w S => (r_mv (F.t 0 rfl))) fun a F => ?_
    refine dq 10 F rfl (by kernel_rfl) NP HS (fun w S => (r_mv (F.t 4 rfl))) fun a F => ?_
    obtain ⟨c21, j_3⟩ := guardO j_3
    obtain ⟨g22, o23, s24, hr, H⟩ := H.ix (⟨0, [], [], [], 0, []⟩ : law18_Op) 6 rfl (F.t 27 rfl) (F.t 28 rfl) Try.underlying22 sz35 (by decide) c21.1 c21.2
    obtain ⟨A25, c26, A27, c28, A29, c30, A31, c32, rfl, H⟩ := H.open_law18_Op 1 rfl
    have HS := H
    refine dmoreH HS (fun w S => S.px5.px4.px3.px2.px1.px0) ?_
    refine dq 11 F rfl (by kernel_rfl) NP HS (fun w S => (hr _ _ _ _ _ _)) fun a F => ?_
    refine dq 12 F rfl (by kernel_rfl) NP HS (fun w S => (r_fa (off := 3) (F.t 29 rfl) fa35_3)) fun a F => ?_
    refine dq 13 F rfl (by kernel_rfl) NP HS (fun w S => (r_ld (F.t 30 rfl) (range_cell (j := 3) (S.range 4 rfl) rfl) one29)) fun a F => ?_
    refine dq 14 F rfl (by kernel_rfl) NP HS (fun w S => (r_len (F.t 31 rfl) Try.underlying29)) fun a F => ?_
    refine dq 15 F rfl (by kernel_rfl) NP HS (fun w S => (r_min (F.t 32 rfl) (F.ev (x := .const (.int .i64 9000)) rfl))) fun a F => ?_
    refine dq 16 F rfl (by kernel_rfl) NP HS (fun w S => (r_add (F.t 26 rfl) (F.t 33 rfl))) fun a F => ?_
    refine dq 17 F rfl (by kernel_rfl) NP HS (fun w S => (r_mv (F.t 0 rfl))) fun a F => ?_
    refine dq 18 F rfl (by kernel_rfl) NP HS (fun w S => (r_mv (F.t 4 rfl))) fun a F => ?_
    obtain ⟨c33, j_3⟩ := guardO j_3
    obtain ⟨g34, o35, s36, hr, H⟩ := H.ix (⟨0, [], [], [], 0, []⟩ : law18_Op) 12 rfl (F.t 35 rfl) (F.t 36 rfl) Try.underlying22 sz35 (by decide) c33.1 c33.2
    obtain ⟨A37, c38, A39, c40, A41, c42, A43, c44, rfl, H⟩ := H.open_law18_Op 1 rfl
    have HS := H
    refine dmoreH HS (fun w S => S.px5.px4.px3.px2.px1.px0) ?_
    refine dq 19 F rfl (by kernel_rfl) NP HS (fun w S => (hr _ _ _ _ _ _)) fun a F => ?_
    refine dq 20 F rfl (by kernel_rfl) NP HS (fun w S => (r_fa (off := 5) (F.t 37 rfl) fa35_5)) fun a F => ?_
    refine dq 21 F rfl (by kernel_rfl) NP HS (fun w S => (r_ld (F.t 38 rfl) (range_cell (j := 5) (S.range 4 rfl) rfl) one33)) fun a F => ?_
    refine dq 22 F rfl (by kernel_rfl) NP HS (fun w S => (r_len (F.t 39 rfl) Try.underlying33)) fun a F => ?_
    refine dq 23 F rfl (by kernel_rfl) NP HS (fun w S => (r_min (F.t 40 rfl) (F.ev (x := .const (.int .i64 9000)) rfl))) fun a F => ?_
    refine dq 24 F rfl (by kernel_rfl) NP HS (fun w S => (r_add (F.t 34 rfl) (F.t 41 rfl))) fun a F => ?_
    refine dq 25 F rfl (by kernel_rfl) NP HS (fun w S => (r_mv (F.t 0 rfl))) fun a F => ?_
    refine dq 26 F rfl (by kernel_rfl) NP HS (fun w S => (r_mv (F.t 4 rfl))) fun a F => ?_
    obtain ⟨c45, j_3⟩ := guardO j_3
    obtain ⟨g46, o47, s48, hr, H⟩ := H.ix (⟨0, [], [], [], 0, []⟩ : law18_Op) 18 rfl (F.t 43 rfl) (F.t 44 rfl) Try.underlying22 sz35 (by decide) c45.1 c45.2
    obtain ⟨A49, c50, A51, c52, A53, c54, A55, c56, rfl, H⟩ := H.open_law18_Op 1 rfl
    have HS := H
    refine dmoreH HS (fun w S => S.px5.px4.px3.px2.px1.px0) ?_
    refine dq 27 F rfl (by kernel_rfl) NP HS (fun w S => (hr _ _ _ _ _ _)) fun a F => ?_
    refine dq 28 F rfl (by kernel_rfl) NP HS (fun w S => (r_fa (off := 2) (F.t 45 rfl) fa35_2)) fun a F => ?_
    refine dq 29 F rfl (by kernel_rfl) NP HS (fun w S => (r_ld (F.t 46 rfl) (range_cell (j := 2) (S.range 4 rfl) rfl) one30)) fun a F => ?_
    refine dq 30 F rfl (by kernel_rfl) NP HS (fun w S => (r_len (F.t 47 rfl) Try.underlying30)) fun a F => ?_
    refine dq 31 F rfl (by kernel_rfl) NP HS (fun w S => (r_min (F.t 48 rfl) (F.ev (x := .const (.int .i64 9000)) rfl))) fun a F => ?_
    refine dq 32 F rfl (by kernel_rfl) NP HS (fun w S => (r_add (F.t 42 rfl) (F.t 49 rfl))) fun a F => ?_
    refine dq 33 F rfl (by kernel_rfl) NP HS (fun w S => (r_as (F.t 50 rfl))) fun a F => ?_
    refine ddone (by kernel_rfl) ?_
    replace F := F.only [3, 0, 4] (l' := [(3, .int .i64 (IntKind.i64.wrap ((IntKind.i64.wrap ((IntKind.i64.wrap ((IntKind.i64.wrap (x1 + (min (((a0.getD (x2 : Int).toNat (⟨0, [], [], [], 0, []⟩ : law18_Op)).State).length : Int) 9000))) + (min (((a0.getD (x2 : Int).toNat (⟨0, [], [], [], 0, []⟩ : law18_Op)).Entry).length : Int) 9000))) + (min (((a0.getD (x2 : Int).toNat (⟨0, [], [], [], 0, []⟩ : law18_Op)).Keep).length : Int) 9000))) + (min (((a0.getD (x2 : Int).toNat (⟨0, [], [], [], 0, []⟩ : law18_Op)).Kept).length : Int) 9000)))), (0, .slice A0_ a0.length c0_), (4, .int .i64 x2)]) rfl
    refine rg ?_
    refine as_ F (v := .int .i64 0) rfl fun a F => ?_
    refine rgend ?_
    obtain ⟨o_59, k_59, j_3⟩ := Option.bind_eq_some_iff.1 j_3
    refine cut (fun a w => ∃ (x59 : Int), x59 = o_59 ∧ Fr 84 [] [(0, .slice A0_ a0.length c0_), (3, .int .i64 x59), (4, .int .i64 x2)] a ∧ Hp w0 (rd k_law18_Op A0_ c0_ a0 :: ps) fs w) (wp_block ?_) ?_
    ·refine wloop (law18_Great_b1 a0 x2) (fun (s : Int × Int) a w => Fr 84 [] [(0, .slice A0_ a0.length c0_), (3, .int .i64 s.1), (4, .int .i64 x2), (5, .int .i64 s.2)] a ∧ Hp w0 (rd k_law18_Op A0_ c0_ a0 :: ps) fs w) k_59 ⟨F.only [0, 3, 4, 5] rfl, H.px23.px22.px21.px20.px19.px18.px17.px16.px15.px14.px13.px12.px11.px10.px9.px8.px7.px6.px5.px4.px3.px2.px1.px0⟩ ?_
     rintro ⟨x57, x58⟩ a w q_59 j_59 u_59 ⟨F, H⟩
     unfold law18_Great_b1 at j_59
     try dsimp only at j_59 F H
     refine wp_seq ?_
     refine wp_seq ?_
     obtain ⟨o_61, k_61, j_59⟩ := Option.bind_eq_some_iff.1 j_59
     refine cut (fun a w => ∃ (x61 : Bool), x61 = o_61 ∧ Fr 84 [] [(0, .slice A0_ a0.length c0_), (3, .int .i64 x57), (4, .int .i64 x2), (5, .int .i64 x58), (62, .bool x61)] a ∧ Hp w0 (rd k_law18_Op A0_ c0_ a0 :: ps) fs w) ?_ ?_
     ·skip
      refine wp_region_lit ?_
      refine mv F rfl fun a F => ?_
      refine mv F rfl fun a F => ?_
      refine mv F rfl fun a F => ?_
      obtain ⟨c63, k_61⟩ := guardO k_61
      obtain ⟨g64, o65, s66, hr, H⟩ := H.ix (⟨0, [], [], [], 0, []⟩ : law18_Op) 0 rfl (F.t 52 rfl) (F.t 53 rfl) Try.underlying22 sz35 (by decide) c63.1 c63.2
      obtain ⟨A67, c68, A69, c70, A71, c72, A73, c74, rfl, H⟩ := H.open_law18_Op 1 rfl
      refine qw F (hr _ _ _ _ _ _) fun a F => ?_
      refine qw F (r_fa (off := 2) (F.t 54 rfl) fa35_2) fun a F => ?_
      refine qw F (r_ld (F.t 55 rfl) (range_cell (j := 2) (H.range 4 rfl) rfl) one30) fun a F => ?_
      refine qw F (r_len (F.t 56 rfl) Try.underlying30) fun a F => ?_
      refine qw F (r_lt (F.t 51 rfl) (F.t 57 rfl)) fun a F => ?_
      refine mv F rfl fun a F => ?_
      by_cases c75 : x58 < (((a0.getD (x2 : Int).toNat (⟨0, [], [], [], 0, []⟩ : law18_Op)).Kept).length : Int)
      ·rw [if_pos c75] at k_61
       rw [decide_eq_true c75] at F
       refine mv F rfl fun a F => ?_
       refine qw F (r_lt (F.t 60 rfl) (F.ev (x := .const (.int .i64 9000)) rfl)) fun a F => ?_
       refine qw F (r_pickT (F.t 59 rfl) (F.t 61 rfl)) fun a F => ?_
       refine wpList_nil ?_
       replace F := F.only [62, 0, 3, 4, 5] (l' := [(62, .bool (decide (x57 < 9000))), (0, .slice A0_ a0.length c0_), (3, .int .i64 x57), (4, .int .i64 x2), (5, .int .i64 x58)]) rfl
       try dsimp only at k_61
       obtain rfl := Option.some.inj k_61
       exact ⟨_, rfl, F.only [0, 3, 4, 5, 62] rfl, H.px5.px4.px3.px2.px1.px0⟩
      ·rw [if_neg c75] at k_61
       rw [decide_eq_false c75] at F
       refine of_ F fun a F => ?_
       refine of_ F fun a F => ?_
       refine qw F (r_pickF (F.t 59 rfl) (F.ev (x := .const (.bool false)) rfl)) fun a F => ?_
       refine wpList_nil ?_
       replace F := F.only [62, 0, 3, 4, 5] (l' := [(62, .bool false), (0, .slice A0_ a0.length c0_), (3, .int .i64 x57), (4, .int .i64 x2), (5, .int .i64 x58)]) rfl
       try dsimp only at k_61
       obtain rfl := Option.some.inj k_61
       exact ⟨_, rfl, F.only [0, 3, 4, 5, 62] rfl, H.px5.px4.px3.px2.px1.px0⟩
     ·rintro a w ⟨x61, rfl, F, H⟩
      try dsimp only at j_59 F H
      by_cases c76 : x61 = true
      ·rw [if_pos c76] at j_59
       rw [c76] at F
       refine wp_cond_true (F.ev rfl) ?_
       refine wp_skip ?_
       refine wp_seq ?_
       refine wp_block ?_
       refine wp_region_lit ?_
       refine mv F rfl fun a F => ?_
       refine mv F rfl fun a F => ?_
       refine mv F rfl fun a F => ?_
       obtain ⟨c77, j_59⟩ := guardO j_59
       obtain ⟨g78, o79, s80, hr, H⟩ := H.ix (⟨0, [], [], [], 0, []⟩ : law18_Op) 0 rfl (F.t 66 rfl) (F.t 67 rfl) Try.underlying22 sz35 (by decide) c77.1 c77.2
       obtain ⟨A81, c82, A83, c84, A85, c86, A87, c88, rfl, H⟩ := H.open_law18_Op 1 rfl
       refine qw F (hr _ _ _ _ _ _) fun a F => ?_
       refine qw F (r_fa (off := 2) (F.t 68 rfl) fa35_2) fun a F => ?_
       refine qw F (r_ld (F.t 69 rfl) (range_cell (j := 2) (H.range 4 rfl) rfl) one30) fun a F => ?_
       refine mv F rfl fun a F => ?_
       obtain ⟨c89, j_59⟩ := guardO j_59
       obtain ⟨g90, o91, s92, hr, H⟩ := H.ix [] 1 rfl (F.t 70 rfl) (F.t 71 rfl) Try.underlying30 sz29 (by decide) c89.1 c89.2
       obtain ⟨A93, c94, rfl, H⟩ := H.says_slice 1 rfl
       refine qw F (hr _ _ _ _ _ _) fun a F => ?_
       refine qw F (r_ld (F.t 72 rfl) (range_cell (j := 0) (H.range 1 rfl) rfl) one29) fun a F => ?_
       refine qw F (r_len (F.t 73 rfl) Try.underlying29) fun a F => ?_
       refine qw F (r_min (F.t 74 rfl) (F.ev (x := .const (.int .i64 9000)) rfl)) fun a F => ?_
       refine qw F (r_add (F.t 65 rfl) (F.t 75 rfl)) fun a F => ?_
       refine as_ F rfl fun a F => ?_
       refine wpList_nil ?_
       replace F := F.only [3, 0, 4, 5] (l' := [(3, .int .i64 (IntKind.i64.wrap (x57 + (min (((((a0.getD (x2 : Int).toNat (⟨0, [], [], [], 0, []⟩ : law18_Op)).Kept).getD (x58 : Int).toNat [])).length : Int) 9000)))), (0, .slice A0_ a0.length c0_), (4, .int .i64 x2), (5, .int .i64 x58)]) rfl
       refine wp_region_lit ?_
       refine mv F rfl fun a F => ?_
       refine qw F (r_add (F.t 63 rfl) (F.ev (x := .const (.int .i64 1)) rfl)) fun a F => ?_
       refine as_ F rfl fun a F => ?_
       refine wpList_nil ?_
       try dsimp only at j_59
       obtain rfl := Option.some.inj j_59
       exact ⟨_, rfl, F.only [0, 3, 4, 5] rfl, H.px8.px7.px6.px5.px4.px3.px2.px1.px0⟩
      ·rw [if_neg c76] at j_59
       rw [Bool.eq_false_iff.2 c76] at F
       refine wp_cond_false (F.ev rfl) ?_
       refine wp_exit ?_
       try dsimp only at j_59
       obtain rfl := Option.some.inj j_59
       obtain rfl := u_59 _ rfl
       repeat (with_reducible refine exT ?_)
       with_reducible refine exB ?_
       exact ⟨_, rfl, F.only [0, 3, 4] rfl, H⟩
    ·rintro a w ⟨x59, rfl, F, H⟩
     try dsimp only at j_3 F H
     refine wp_region_lit ?_
     refine mv F rfl fun a F => ?_
     refine qw F (r_add (F.t 16 rfl) (F.ev (x := .const (.int .i64 1)) rfl)) fun a F => ?_
     refine as_ F rfl fun a F => ?_
     refine wpList_nil ?_
     try dsimp only at j_3
     obtain rfl := Option.some.inj j_3
     exact ⟨_, rfl, F.only [0, 3, 4] rfl, H⟩
   ·rw [if_neg c8] at j_3
    rw [Bool.eq_false_iff.2 c8] at F
    refine wp_cond_false (F.ev rfl) ?_
    refine wp_exit ?_
    try dsimp only at j_3
    obtain rfl := Option.some.inj j_3
    obtain rfl := u_3 _ rfl
    repeat (with_reducible refine exT ?_)
    with_reducible refine exB ?_
    exact ⟨_, rfl, F.only [0, 3] rfl, H⟩
 ·rintro a w ⟨x3, rfl, F, H⟩
  try dsimp only at h F H
  refine wp_seq ?_
  obtain ⟨o_95, k_95, h⟩ := Option.bind_eq_some_iff.1 h
  refine cut (fun a w => ∃ (x95 : Bool), x95 = o_95 ∧ Fr 84 [] [(2, .bool x95)] a ∧ Hp w0 ps fs w) ?_ ?_
  ·skip
   refine wp_region_lit ?_
   refine mv F rfl fun a F => ?_
   refine qw F (r_ge (F.t 77 rfl) (F.ev (x := .const (.int .i64 9000)) rfl)) fun a F => ?_
   refine mv F rfl fun a F => ?_
   by_cases c97 : x3 ≥ 9000
   ·rw [if_pos c97] at k_95
    rw [decide_eq_true c97] at F
    refine of_ F fun a F => ?_
    refine of_ F fun a F => ?_
    refine of_ F fun a F => ?_
    refine qw F (r_pickT (F.t 79 rfl) (F.ev (x := .const (.bool true)) rfl)) fun a F => ?_
    refine as_ F rfl fun a F => ?_
    refine wpList_nil ?_
    replace F := F.only [2] (l' := [(2, .bool true)]) rfl
    try dsimp only at k_95
    obtain rfl := Option.some.inj k_95
    exact ⟨_, rfl, F.only [2] rfl, H.px0⟩
   ·rw [if_neg c97] at k_95
    rw [decide_eq_false c97] at F
    refine mv F rfl fun a F => ?_
    refine qw F (r_len (F.t 80 rfl) Try.underlying22) fun a F => ?_
    refine qw F (r_gt (F.t 81 rfl) (F.ev (x := .const (.int .i64 60)) rfl)) fun a F => ?_
    refine qw F (r_pickF (F.t 79 rfl) (F.t 82 rfl)) fun a F => ?_
    refine as_ F rfl fun a F => ?_
    refine wpList_nil ?_
    replace F := F.only [2] (l' := [(2, .bool (decide ((a0.length : Int) > 60)))]) rfl
    try dsimp only at k_95
    obtain rfl := Option.some.inj k_95
    exact ⟨_, rfl, F.only [2] rfl, H.px0⟩
  ·rintro a w ⟨x95, rfl, F, H⟩
   try dsimp only at h F H
   refine wp_ret ?_
   try dsimp only at h
   obtain rfl := Option.some.inj h
   exact RET _ _ (ret1 F rfl rfl ⟨_, rfl, rfl, H⟩)
def law18_beginning_f (a0 : List (List Int)) (a1 : List (List Int)) (a2 : Int) : Option (Bool) :=
 (((if (a0.length : Int) ≥ a2 then (if (a0.length : Int) ≤ (a1.length : Int) then (if 0 ≤ (0 : Int) ∧ (0 : Int) ≤ min (a0.length : Int) (a1.length : Int) ∧ min (a0.length : Int) (a1.length : Int) ≤ (a1.length : Int) then ((ref17_SameRows_f a0 (((a1.take (min (a0.length : Int) (a1.length : Int)).toNat).drop ((0 : Int)).toNat))).bind fun x8 => some x8) else none) else some false) else some false) : Option (Bool)).bind fun x1 => some x1)
set_option maxHeartbeats 4000000 in
set_option maxRecDepth 20000 in
theorem law18_beginning_ok {w0 w : World} {ps : List PF} {fs : List SF} {a0 : List (List Int)} {A0_ : Option Addr} {c0_ : Nat} {a1 : List (List Int)} {A1_ : Option Addr} {c1_ : Nat} {a2 : Int} {r0 : Bool} (H : Hp w0 (rd (kSlice kByte) A0_ c0_ a0 :: rd (kSlice kByte) A1_ c1_ a1 :: ps) fs w) (h : law18_beginning_f a0 a1 a2 = some r0) :
  Calls Try.prog 18 [.slice A0_ a0.length c0_, .slice A1_ a1.length c1_, .int .i64 a2].toArray w fun e w' => ∃ v, e = .returned v ∧ v = .bool r0 ∧ Hp w0 ps fs w' := by
 refine enter [.slice A0_ a0.length c0_, .slice A1_ a1.length c1_, .int .i64 a2] 29 Try.func18 fun Q a NP RET NRM F => ?_
 replace NP : ∀ c a w, ¬ Q (.panic c) a w := fun c a w h => by rcases NP c a w h with h | ⟨w, v, h, _⟩ <;> cases h
 unfold law18_beginning_f at h
 refine rg ?_
 refine as_ F (v := .bool false) rfl fun a F => ?_
 refine rgend ?_
 refine wp_seq ?_
 obtain ⟨o_1, k_1, h⟩ := Option.bind_eq_some_iff.1 h
 refine cut (fun a w => ∃ (x1 : Bool), x1 = o_1 ∧ Fr 29 [] [(6, .bool x1)] a ∧ Hp w0 ps fs w) ?_ ?_
 ·skip
  refine wp_region_lit ?_
  refine mv F rfl fun a F => ?_
  refine qw F (r_len (F.t 7 rfl) Try.underlying30) fun a F => ?_
  refine mv F rfl fun a F => ?_
  refine qw F (r_ge (F.t 8 rfl) (F.t 9 rfl)) fun a F => ?_
  refine mv F rfl fun a F => ?_
  by_cases c3 : (a0.length : Int) ≥ a2
  ·rw [if_pos c3] at k_1
   rw [decide_eq_true c3] at F
   refine mv F rfl fun a F => ?_
   refine qw F (r_len (F.t 12 rfl) Try.underlying30) fun a F => ?_
   refine mv F rfl fun a F => ?_
   refine qw F (r_len (F.t 14 rfl) Try.underlying30) fun a F => ?_
   refine qw F (r_le (F.t 13 rfl) (F.t 15 rfl)) fun a F => ?_
   refine qw F (r_pickT (F.t 11 rfl) (F.t 16 rfl)) fun a F => ?_
   refine mv F rfl fun a F => ?_
   by_cases c4 : (a0.length : Int) ≤ (a1.length : Int)
   ·rw [if_pos c4] at k_1
    rw [decide_eq_true c4] at F
    refine mv F rfl fun a F => ?_
    refine mv F rfl fun a F => ?_
    refine mv F rfl fun a F => ?_
    refine qw F (r_len (F.t 21 rfl) Try.underlying30) fun a F => ?_
    refine mv F rfl fun a F => ?_
    refine qw F (r_len (F.t 23 rfl) Try.underlying30) fun a F => ?_
    refine qw F (r_min (F.t 22 rfl) (F.t 24 rfl)) fun a F => ?_
    obtain ⟨c5, k_1⟩ := guardO k_1
    obtain ⟨A6, c7, hr, H⟩ := Hp.sl (kd := (kSlice kByte)) (jl := (0 : Int)) (jh := min (a0.length : Int) (a1.length : Int)) H 1 rfl (F.t 20 rfl) Try.underlying30 sz29 (.inl ⟨rfl, rfl⟩) (.inr ⟨_, _, rfl, (F.t 25 rfl)⟩) c5
    refine qw F (hr _ _ _ _ _ _) fun a F => ?_
    obtain ⟨x8, e9, k_1⟩ := Option.bind_eq_some_iff.1 k_1
    try dsimp only at k_1
    refine ls (call F Try.func19 (ref17_SameRows_ok (H.p0.p2) e9) rfl rfl fun v w hR a F => ?_)
    obtain ⟨rfl, H⟩ := hR
    refine qw F (r_pickT (F.t 18 rfl) (F.t 27 rfl)) fun a F => ?_
    refine as_ F rfl fun a F => ?_
    refine wpList_nil ?_
    replace F := F.only [6] (l' := [(6, .bool x8)]) rfl
    try dsimp only at k_1
    obtain rfl := Option.some.inj k_1
    exact ⟨_, rfl, F.only [6] rfl, H.px2.px1.px0⟩
   ·rw [if_neg c4] at k_1
    rw [decide_eq_false c4] at F
    refine of_ F fun a F => ?_
    refine of_ F fun a F => ?_
    refine of_ F fun a F => ?_
    refine of_ F fun a F => ?_
    refine of_ F fun a F => ?_
    refine of_ F fun a F => ?_
    refine of_ F fun a F => ?_
    refine of_ F fun a F => ?_
    refine of_ F fun a F => ?_
    refine qw F (r_pickF (F.t 18 rfl) (F.ev (x := .const (.bool false)) rfl)) fun a F => ?_
    refine as_ F rfl fun a F => ?_
    refine wpList_nil ?_
    replace F := F.only [6] (l' := [(6, .bool false)]) rfl
    try dsimp only at k_1
    obtain rfl := Option.some.inj k_1
    exact ⟨_, rfl, F.only [6] rfl, H.px1.px0⟩
  ·rw [if_neg c3] at k_1
   rw [decide_eq_false c3] at F
   refine of_ F fun a F => ?_
   refine of_ F fun a F => ?_
   refine of_ F fun a F => ?_
   refine of_ F fun a F => ?_
   refine of_ F fun a F => ?_
   refine qw F (r_pickF (F.t 11 rfl) (F.ev (x := .const (.bool false)) rfl)) fun a F => ?_
   refine mv F rfl fun a F => ?_
   refine of_ F fun a F => ?_
   refine of_ F fun a F => ?_
   refine of_ F fun a F => ?_
   refine of_ F fun a F => ?_
   refine of_ F fun a F => ?_
   refine of_ F fun a F => ?_
   refine of_ F fun a F => ?_
   refine of_ F fun a F => ?_
   refine of_ F fun a F => ?_
   refine qw F (r_pickF (F.t 18 rfl) (F.ev (x := .const (.bool false)) rfl)) fun a F => ?_
   refine as_ F rfl fun a F => ?_
   refine wpList_nil ?_
   replace F := F.only [6] (l' := [(6, .bool false)]) rfl
   try dsimp only at k_1
   obtain rfl := Option.some.inj k_1
   exact ⟨_, rfl, F.only [6] rfl, H.px1.px0⟩
 ·rintro a w ⟨x1, rfl, F, H⟩
  try dsimp only at h F H
  refine wp_ret ?_
  try dsimp only at h
  obtain rfl := Option.some.inj h
  exact RET _ _ (ret1 F rfl rfl ⟨_, rfl, rfl, H⟩)
def law18_do_f (a0 : disk_Disk) (a1 : store_Store) (a2 : law18_Op) : Option (store_Store × Int × disk_Disk) :=
 (((if a2.What = 2 then some true else (((if a2.What = 3 then some true else some ((decide (a2.What = 4)))) : Option (Bool)).bind fun x5 => some x5)) : Option (Bool)).bind fun x2 => (if x2 = true then ((store_Store_Append_f a1 a2.Entry a0).bind fun (x9, x10, x11) => some (x10, x9, x11)) else (if a2.What = 5 then ((store_Store_Sync_f a1 a0).bind fun (x14, x15) => some (a1, x14, x15)) else (if a2.What = 6 then ((disk_Disk_Fuse_f a0 a2.N).bind fun x18 => some (a1, 0, x18)) else (if a2.What = 7 then ((disk_Disk_Crash_f a0 a2.Keep a2.N).bind fun x21 => ((store_Open_f x21).bind fun x23 => some (x23, 0, x21))) else ((store_Store_Begin_f a1 a2.State a2.Kept a0).bind fun (x26, x27, x28) => some (x27, x26, x28)))))))
set_option maxHeartbeats 4000000 in
set_option maxRecDepth 20000 in
theorem law18_do_ok {w0 w : World} {ps : List PF} {fs : List SF} {a0 : disk_Disk} {g0_ : Nat} {a1 : store_Store} {g1_ : Nat} {a2 : law18_Op} {A2_1 : Option Addr} {c2_1 : Nat} {A2_2 : Option Addr} {c2_2 : Nat} {A2_3 : Option Addr} {c2_3 : Nat} {A2_5 : Option Addr} {c2_5 : Nat} {r0 : store_Store} {r1 : Int} {s0 : disk_Disk} (H : Hp w0 (rd kByte A2_1 c2_1 a2.State :: rd (kSlice kByte) A2_2 c2_2 a2.Kept :: rd kByte A2_3 c2_3 a2.Entry :: rd kBool A2_5 c2_5 a2.Keep :: ps) (obj_disk_Disk g0_ a0 :: obj_store_Store g1_ g0_ a1 :: fs) w) (h : law18_do_f a0 a1 a2 = some (r0, r1, s0)) :
  Calls Try.prog 14 [.pointer (some ⟨g0_, 0, none⟩), .pointer (some ⟨g1_, 0, none⟩), .agg #[.int .i64 a2.What, .slice A2_1 a2.State.length c2_1, .slice A2_2 a2.Kept.length c2_2, .slice A2_3 a2.Entry.length c2_3, .int .i64 a2.N, .slice A2_5 a2.Keep.length c2_5]].toArray w fun e w' => ∃ v, e = .returned v ∧ ∃ (g0 : Nat), v = .tuple #[.pointer (some ⟨g0, 0, none⟩), .int .i64 r1] ∧ Hp w0 ps (obj_store_Store g0 g0_ r0 :: obj_disk_Disk g0_ s0 :: fs) w' := by
 refine enter [.pointer (some ⟨g0_, 0, none⟩), .pointer (some ⟨g1_, 0, none⟩), .agg #[.int .i64 a2.What, .slice A2_1 a2.State.length c2_1, .slice A2_2 a2.Kept.length c2_2, .slice A2_3 a2.Entry.length c2_3, .int .i64 a2.N, .slice A2_5 a2.Keep.length c2_5]] 48 Try.func14 fun Q a NP RET NRM F => ?_
 replace NP : ∀ c a w, ¬ Q (.panic c) a w := fun c a w h => by rcases NP c a w h with h | ⟨w, v, h, _⟩ <;> cases h
 unfold law18_do_f at h
 refine rg ?_
 refine ls (lbox F H rfl (cs := [.int .i64 a2.What, .slice A2_1 a2.State.length c2_1, .slice A2_2 a2.Kept.length c2_2, .slice A2_3 a2.Entry.length c2_3, .int .i64 a2.N, .slice A2_5 a2.Keep.length c2_5]) rfl fun g1 w a H F => ?_)
 refine as_ F (v := .pointer none) rfl fun a F => ?_
 refine as_ F (v := .int .i64 0) rfl fun a F => ?_
 refine rgend ?_
 refine wp_seq ?_
 refine rg ?_
 refine qw F (r_fa (off := 0) (F.t 5 rfl) fa35_0) fun a F => ?_
 refine qw F (r_ld (F.t 8 rfl) (cel_cell (o := 0) (H.cell 0 rfl) rfl) one3) fun a F => ?_
 refine rgend ?_
 replace F := F.only [9, 5, 0, 1] (l' := [(9, .int .i64 a2.What), (5, .pointer (some ⟨g1, 0, none⟩)), (0, .pointer (some ⟨g0_, 0, none⟩)), (1, .pointer (some ⟨g1_, 0, none⟩))]) rfl
 refine wp_block ?_
 refine wp_seq ?_
 refine rg ?_
 refine qw F (r_eq (F.t 9 rfl) (F.ev (x := .const (.int .i64 2)) rfl)) fun a F => ?_
 refine as_ F rfl fun a F => ?_
 refine rgend ?_
 obtain ⟨o_2, k_2, h⟩ := Option.bind_eq_some_iff.1 h
 refine cut (fun a w => ∃ (x2 : Bool), x2 = o_2 ∧ Fr 48 [] [(0, .pointer (some ⟨g0_, 0, none⟩)), (1, .pointer (some ⟨g1_, 0, none⟩)), (5, .pointer (some ⟨g1, 0, none⟩)), (9, .int .i64 a2.What), (10, .bool x2)] a ∧ Hp w0 (rd kByte A2_1 c2_1 a2.State :: rd (kSlice kByte) A2_2 c2_2 a2.Kept :: rd kByte A2_3 c2_3 a2.Entry :: rd kBool A2_5 c2_5 a2.Keep :: ps) (obj_store_Store g1_ g0_ a1 :: obj_disk_Disk g0_ a0 :: cel g1 [.int .i64 a2.What, .slice A2_1 a2.State.length c2_1, .slice A2_2 a2.Kept.length c2_2, .slice A2_3 a2.Entry.length c2_3, .int .i64 a2.N, .slice A2_5 a2.Keep.length c2_5] 35 :: fs) w) ?_ ?_
 ·skip
  by_cases c4 : a2.What = 2
  ·rw [if_pos c4] at k_2
   rw [decide_eq_true c4] at F
   refine wp_cond_true (F.ev rfl) ?_
   refine wp_skip ?_
   try dsimp only at k_2
   obtain rfl := Option.some.inj k_2
   exact ⟨_, rfl, F.only [0, 1, 5, 9, 10] rfl, H.f1.f2⟩
  ·rw [if_neg c4] at k_2
   rw [decide_eq_false c4] at F
   refine wp_cond_false (F.ev rfl) ?_
   refine rg ?_
   refine qw F (r_eq (F.t 9 rfl) (F.ev (x := .const (.int .i64 3)) rfl)) fun a F => ?_
   refine as_ F rfl fun a F => ?_
   refine rgend ?_
   obtain ⟨o_5, k_5, k_2⟩ := Option.bind_eq_some_iff.1 k_2
   refine cut (fun a w => ∃ (x5 : Bool), x5 = o_5 ∧ Fr 48 [] [(0, .pointer (some ⟨g0_, 0, none⟩)), (1, .pointer (some ⟨g1_, 0, none⟩)), (5, .pointer (some ⟨g1, 0, none⟩)), (9, .int .i64 a2.What), (10, .bool x5)] a ∧ Hp w0 (rd kByte A2_1 c2_1 a2.State :: rd (kSlice kByte) A2_2 c2_2 a2.Kept :: rd kByte A2_3 c2_3 a2.Entry :: rd kBool A2_5 c2_5 a2.Keep :: ps) (obj_store_Store g1_ g0_ a1 :: obj_disk_Disk g0_ a0 :: cel g1 [.int .i64 a2.What, .slice A2_1 a2.State.length c2_1, .slice A2_2 a2.Kept.length c2_2, .slice A2_3 a2.Entry.length c2_3, .int .i64 a2.N, .slice A2_5 a2.Keep.length c2_5] 35 :: fs) w) ?_ ?_
   ·skip
    by_cases c7 : a2.What = 3
    ·rw [if_pos c7] at k_5
     rw [decide_eq_true c7] at F
     refine wp_cond_true (F.ev rfl) ?_
     refine wp_skip ?_
     try dsimp only at k_5
     obtain rfl := Option.some.inj k_5
     exact ⟨_, rfl, F.only [0, 1, 5, 9, 10] rfl, H.f1.f2⟩
    ·rw [if_neg c7] at k_5
     rw [decide_eq_false c7] at F
     refine wp_cond_false (F.ev rfl) ?_
     refine wp_region_lit ?_
     refine qw F (r_eq (F.t 9 rfl) (F.ev (x := .const (.int .i64 4)) rfl)) fun a F => ?_
     refine as_ F rfl fun a F => ?_
     refine wpList_nil ?_
     replace F := F.only [10, 9, 5, 0, 1] (l' := [(10, .bool (decide (a2.What = 4))), (9, .int .i64 a2.What), (5, .pointer (some ⟨g1, 0, none⟩)), (0, .pointer (some ⟨g0_, 0, none⟩)), (1, .pointer (some ⟨g1_, 0, none⟩))]) rfl
     try dsimp only at k_5
     obtain rfl := Option.some.inj k_5
     exact ⟨_, rfl, F.only [0, 1, 5, 9, 10] rfl, H.f1.f2⟩
   ·rintro a w ⟨x5, rfl, F, H⟩
    try dsimp only at k_2 F H
    try dsimp only at k_2
    obtain rfl := Option.some.inj k_2
    exact ⟨_, rfl, F.only [0, 1, 5, 9, 10] rfl, H⟩
 ·rintro a w ⟨x2, rfl, F, H⟩
  try dsimp only at h F H
  by_cases c8 : x2 = true
  ·rw [if_pos c8] at h
   rw [c8] at F
   refine wp_cond_true (F.ev rfl) ?_
   refine rg ?_
   refine mv F rfl fun a F => ?_
   refine mv F rfl fun a F => ?_
   refine qw F (r_fa (off := 3) (F.t 5 rfl) fa35_3) fun a F => ?_
   refine qw F (r_ld (F.t 16 rfl) (cel_cell (o := 3) (H.cell 2 rfl) rfl) one29) fun a F => ?_
   obtain ⟨⟨x9, x10, x11⟩, e12, h⟩ := Option.bind_eq_some_iff.1 h
   try dsimp only at h
   refine ls (call F Try.func22 (store_Store_Append_ok (H.p2) e12) rfl rfl fun v w hR a F => ?_)
   obtain ⟨rfl, H⟩ := hR
   refine as_ F rfl fun a F => ?_
   refine as_ F rfl fun a F => ?_
   refine rgend ?_
   replace F := F.only [7, 6] (l' := [(7, .int .i64 x9), (6, .pointer (some ⟨g1_, 0, none⟩))]) rfl
   refine wp_ret ?_
   try dsimp only at h
   obtain ⟨rfl, hx_0⟩ := Prod.mk.inj (Option.some.inj h)
   obtain ⟨rfl, rfl⟩ := Prod.mk.inj hx_0
   exact RET _ _ (ret2 F rfl rfl rfl ⟨_, rfl, g1_, rfl, H.px3.px2.px1.px0.fx2⟩)
  ·rw [if_neg c8] at h
   rw [Bool.eq_false_iff.2 c8] at F
   refine wp_cond_false (F.ev rfl) ?_
   refine rg ?_
   refine qw F (r_eq (F.t 9 rfl) (F.ev (x := .const (.int .i64 5)) rfl)) fun a F => ?_
   refine as_ F rfl fun a F => ?_
   refine rgend ?_
   by_cases c13 : a2.What = 5
   ·rw [if_pos c13] at h
    rw [decide_eq_true c13] at F
    refine wp_cond_true (F.ev rfl) ?_
    refine rg ?_
    refine mv F rfl fun a F => ?_
    refine mv F rfl fun a F => ?_
    obtain ⟨⟨x14, x15⟩, e16, h⟩ := Option.bind_eq_some_iff.1 h
    try dsimp only at h
    refine ls (call F Try.func23 (store_Store_Sync_ok (H) e16) rfl rfl fun v w hR a F => ?_)
    obtain ⟨rfl, H⟩ := hR
    refine as_ F rfl fun a F => ?_
    refine as_ F rfl fun a F => ?_
    refine rgend ?_
    replace F := F.only [7, 6] (l' := [(7, .int .i64 x14), (6, .pointer (some ⟨g1_, 0, none⟩))]) rfl
    refine wp_ret ?_
    try dsimp only at h
    obtain ⟨rfl, hx_0⟩ := Prod.mk.inj (Option.some.inj h)
    obtain ⟨rfl, rfl⟩ := Prod.mk.inj hx_0
    exact RET _ _ (ret2 F rfl rfl rfl ⟨_, rfl, g1_, rfl, H.px3.px2.px1.px0.fx2⟩)
   ·rw [if_neg c13] at h
    rw [decide_eq_false c13] at F
    refine wp_cond_false (F.ev rfl) ?_
    refine rg ?_
    refine qw F (r_eq (F.t 9 rfl) (F.ev (x := .const (.int .i64 6)) rfl)) fun a F => ?_
    refine as_ F rfl fun a F => ?_
    refine rgend ?_
    replace F := F.only [24, 0, 1, 5, 9] (l' := [(24, .bool (decide (a2.What = 6))), (0, .pointer (some ⟨g0_, 0, none⟩)), (1, .pointer (some ⟨g1_, 0, none⟩)), (5, .pointer (some ⟨g1, 0, none⟩)), (9, .int .i64 a2.What)]) rfl
    by_cases c17 : a2.What = 6
    ·rw [if_pos c17] at h
     rw [decide_eq_true c17] at F
     refine wp_cond_true (F.ev rfl) ?_
     refine rg ?_
     refine mv F rfl fun a F => ?_
     refine qw F (r_fa (off := 4) (F.t 5 rfl) fa35_4) fun a F => ?_
     refine qw F (r_ld (F.t 27 rfl) (cel_cell (o := 4) (H.cell 2 rfl) rfl) one3) fun a F => ?_
     obtain ⟨x18, e19, h⟩ := Option.bind_eq_some_iff.1 h
     try dsimp only at h
     refine ls (call F Try.func35 (disk_Disk_Fuse_ok (H.f2.f1.f2) e19) rfl rfl fun v w hR a F => ?_)
     obtain ⟨rfl, H⟩ := hR
     refine rgend ?_
     replace F := F.only [1] (l' := [(1, .pointer (some ⟨g1_, 0, none⟩))]) rfl
     refine rg ?_
     refine mv F rfl fun a F => ?_
     refine as_ F rfl fun a F => ?_
     refine as_ F (v := .int .i64 0) rfl fun a F => ?_
     refine rgend ?_
     refine wp_ret ?_
     try dsimp only at h
     obtain ⟨rfl, hx_0⟩ := Prod.mk.inj (Option.some.inj h)
     obtain ⟨rfl, rfl⟩ := Prod.mk.inj hx_0
     exact RET _ _ (ret2 F rfl rfl rfl ⟨_, rfl, g1_, rfl, H.px3.px2.px1.px0.f1.fx2⟩)
    ·rw [if_neg c17] at h
     rw [decide_eq_false c17] at F
     refine wp_cond_false (F.ev rfl) ?_
     refine rg ?_
     refine qw F (r_eq (F.t 9 rfl) (F.ev (x := .const (.int .i64 7)) rfl)) fun a F => ?_
     refine as_ F rfl fun a F => ?_
     refine rgend ?_
     by_cases c20 : a2.What = 7
     ·rw [if_pos c20] at h
      rw [decide_eq_true c20] at F
      refine wp_cond_true (F.ev rfl) ?_
      refine rg ?_
      refine mv F rfl fun a F => ?_
      refine qw F (r_fa (off := 5) (F.t 5 rfl) fa35_5) fun a F => ?_
      refine qw F (r_ld (F.t 34 rfl) (cel_cell (o := 5) (H.cell 2 rfl) rfl) one33) fun a F => ?_
      refine qw F (r_fa (off := 4) (F.t 5 rfl) fa35_4) fun a F => ?_
      refine qw F (r_ld (F.t 36 rfl) (cel_cell (o := 4) (H.cell 2 rfl) rfl) one3) fun a F => ?_
      obtain ⟨x21, e22, h⟩ := Option.bind_eq_some_iff.1 h
      try dsimp only at h
      refine ls (call F Try.func24 (disk_Disk_Crash_ok (H.p3.f2.f1.f2) e22) rfl rfl fun v w hR a F => ?_)
      obtain ⟨rfl, H⟩ := hR
      refine rgend ?_
      replace F := F.only [0] (l' := [(0, .pointer (some ⟨g0_, 0, none⟩))]) rfl
      refine rg ?_
      refine mv F rfl fun a F => ?_
      obtain ⟨x23, e24, h⟩ := Option.bind_eq_some_iff.1 h
      try dsimp only at h
      refine ls (call F Try.func13 (store_Open_ok (H) e24) rfl rfl fun v w hR a F => ?_)
      obtain ⟨g25, rfl, H⟩ := hR
      refine as_ F rfl fun a F => ?_
      refine as_ F (v := .int .i64 0) rfl fun a F => ?_
      refine rgend ?_
      refine wp_ret ?_
      try dsimp only at h
      obtain ⟨rfl, hx_0⟩ := Prod.mk.inj (Option.some.inj h)
      obtain ⟨rfl, rfl⟩ := Prod.mk.inj hx_0
      exact RET _ _ (ret2 F rfl rfl rfl ⟨_, rfl, g25, rfl, H.px3.px2.px1.px0.fx3.fx2⟩)
     ·rw [if_neg c20] at h
      rw [decide_eq_false c20] at F
      refine wp_cond_false (F.ev rfl) ?_
      refine wp_skip ?_
      refine rg ?_
      refine mv F rfl fun a F => ?_
      refine mv F rfl fun a F => ?_
      refine qw F (r_fa (off := 1) (F.t 5 rfl) fa35_1) fun a F => ?_
      refine qw F (r_ld (F.t 43 rfl) (cel_cell (o := 1) (H.cell 2 rfl) rfl) one29) fun a F => ?_
      refine qw F (r_fa (off := 2) (F.t 5 rfl) fa35_2) fun a F => ?_
      refine qw F (r_ld (F.t 45 rfl) (cel_cell (o := 2) (H.cell 2 rfl) rfl) one30) fun a F => ?_
      obtain ⟨⟨x26, x27, x28⟩, e29, h⟩ := Option.bind_eq_some_iff.1 h
      try dsimp only at h
      refine ls (call F Try.func21 (store_Store_Begin_ok (H.p1.p1) e29) rfl rfl fun v w hR a F => ?_)
      obtain ⟨rfl, H⟩ := hR
      refine as_ F rfl fun a F => ?_
      refine as_ F rfl fun a F => ?_
      refine rgend ?_
      replace F := F.only [7, 6] (l' := [(7, .int .i64 x26), (6, .pointer (some ⟨g1_, 0, none⟩))]) rfl
      refine wp_ret ?_
      try dsimp only at h
      obtain ⟨rfl, hx_0⟩ := Prod.mk.inj (Option.some.inj h)
      obtain ⟨rfl, rfl⟩ := Prod.mk.inj hx_0
      exact RET _ _ (ret2 F rfl rfl rfl ⟨_, rfl, g1_, rfl, H.px3.px2.px1.px0.fx2⟩)
end Go.Proofs.Ytpmkpiffbdcflaa
