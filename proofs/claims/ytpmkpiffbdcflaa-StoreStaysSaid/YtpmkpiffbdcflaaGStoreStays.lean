/- What the functions compute. Printed by wip/gen. -/
import Derived.Test.YtpmkpiffbdcflaaGL
set_option linter.unusedVariables false
set_option linter.unusedSimpArgs false
namespace Go.Proofs.Ytpmkpiffbdcflaa
open Go Go.RowKit
def law18_StoreStays_b0 (a1 : List law18_Op) : (store_Store × Bool × Bool × Int × Int × (List Int) × (List (List Int)) × (List (List Int)) × disk_Disk × (List Int) × (List (List Int))) → Option (store_Store × Bool × Bool × Int × Int × (List Int) × (List (List Int)) × (List (List Int)) × disk_Disk × (List Int) × (List (List Int)) ⊕ (disk_Disk ⊕ Bool))
 | (x16, x17, x18, x19, x20, x21, x24, x27, x30, x31, x34) => (if x20 < (a1.length : Int) then (if 0 ≤ x20 ∧ x20 < (a1.length : Int) then ((law18_do_f x30 x16 ((a1.getD (x20 : Int).toNat (⟨0, [], [], [], 0, []⟩ : law18_Op)))).bind fun (x53, x54, x55) => (if (0 + x24.length) * 24 ≤ 140737488355328 then (if (x24.length + x27.length) * 24 ≤ 140737488355328 then (((if ((a1.getD (x20 : Int).toNat (⟨0, [], [], [], 0, []⟩ : law18_Op)).What) = 7 then ((store_Store_Entries_f x53).bind fun x85 => (((if x17 = true then ((store_Store_Has_f x53).bind fun x93 => (if x93 = true then ((store_Store_State_f x53).bind fun x97 => (if x97 = x21 then ((law18_beginning_f x85 (x24 ++ x27) x19).bind fun x103 => some (true, x103)) else some (true, false))) else some (true, false))) else some (false, false)) : Option (Bool × Bool)).bind fun (x89, x90) => (((if x18 = true then ((store_Store_Has_f x53).bind fun x108 => (if x108 = true then ((store_Store_State_f x53).bind fun x112 => (if x112 = x31 then ((ref17_SameRows_f x85 x34).bind fun x118 => some x118) else some false)) else some false)) else some false) : Option (Bool)).bind fun x105 => (((if x90 = true then some false else (if x105 = true then some false else (if x89 = true then some true else ((store_Store_Has_f x53).bind fun x125 => some x125)))) : Option (Bool)).bind fun x120 => (if x120 = true then some (.inr false) else ((store_Store_Has_f x53).bind fun x128 => ((store_Store_State_f x53).bind fun x130 => some (.inl (x128, false, (x85.length : Int), x130, x85, [], x31, x34))))))))) else (((if ((a1.getD (x20 : Int).toNat (⟨0, [], [], [], 0, []⟩ : law18_Op)).What) < 2 then some ((decide (x54 = 0))) else (if ((a1.getD (x20 : Int).toNat (⟨0, [], [], [], 0, []⟩ : law18_Op)).What) > 7 then some ((decide (x54 = 0))) else some false)) : Option (Bool)).bind fun x134 => (((if x134 = true then some (true, x18, (((a1.getD (x20 : Int).toNat (⟨0, [], [], [], 0, []⟩ : law18_Op)).Kept).length : Int), (a1.getD (x20 : Int).toNat (⟨0, [], [], [], 0, []⟩ : law18_Op)).State, (a1.getD (x20 : Int).toNat (⟨0, [], [], [], 0, []⟩ : law18_Op)).Kept, [], x31, x34) else (((if ((a1.getD (x20 : Int).toNat (⟨0, [], [], [], 0, []⟩ : law18_Op)).What) < 2 then (if x54 ≠ 1 then some ((decide (x54 ≠ 43))) else some false) else (if ((a1.getD (x20 : Int).toNat (⟨0, [], [], [], 0, []⟩ : law18_Op)).What) > 7 then (if x54 ≠ 1 then some ((decide (x54 ≠ 43))) else some false) else some false)) : Option (Bool)).bind fun x158 => (((if x158 = true then some (true, x19, x27, (a1.getD (x20 : Int).toNat (⟨0, [], [], [], 0, []⟩ : law18_Op)).State, (a1.getD (x20 : Int).toNat (⟨0, [], [], [], 0, []⟩ : law18_Op)).Kept) else (((if ((a1.getD (x20 : Int).toNat (⟨0, [], [], [], 0, []⟩ : law18_Op)).What) ≥ 2 then (if ((a1.getD (x20 : Int).toNat (⟨0, [], [], [], 0, []⟩ : law18_Op)).What) ≤ 4 then some ((decide (x54 = 0))) else some false) else some false) : Option (Bool)).bind fun x177 => (((if x177 = true then (if (0 + x27.length) * 24 ≤ 140737488355328 then (if (x27.length + 1) * 24 ≤ 140737488355328 then some (x19, (x27 ++ ([(a1.getD (x20 : Int).toNat (⟨0, [], [], [], 0, []⟩ : law18_Op)).Entry]))) else none) else none) else (((if ((a1.getD (x20 : Int).toNat (⟨0, [], [], [], 0, []⟩ : law18_Op)).What) = 5 then some ((decide (x54 = 0))) else some false) : Option (Bool)).bind fun x210 => (((if x210 = true then some ((IntKind.i64.wrap ((x24.length : Int) + (x27.length : Int)))) else some x19) : Option (Int)).bind fun x213 => some (x213, x27)))) : Option (Int × (List (List Int)))).bind fun (x181, x182) => some (x18, x181, x182, x31, x34)))) : Option (Bool × Int × (List (List Int)) × (List Int) × (List (List Int)))).bind fun (x164, x165, x166, x169, x172) => some (x17, x164, x165, x21, x24, x166, x169, x172)))) : Option (Bool × Bool × Int × (List Int) × (List (List Int)) × (List (List Int)) × (List Int) × (List (List Int)))).bind fun (x138, x139, x140, x141, x144, x147, x150, x153) => some (.inl (x138, x139, x140, x141, x144, x147, x150, x153))))) : Option ((Bool × Bool × Int × (List Int) × (List (List Int)) × (List (List Int)) × (List Int) × (List (List Int))) ⊕ Bool)).bind fun q => match q with | .inl (x65, x66, x67, x68, x71, x74, x77, x80) => some (.inl (x53, x65, x66, x67, IntKind.i64.wrap (x20 + 1), x68, x71, x74, x55, x77, x80)) | .inr r => some (.inr (.inr r))) else none) else none)) else none) else some (.inr (.inl x30)))
def law18_StoreStays_f (a0 : Int) (a1 : List law18_Op) : Option (Bool) :=
 ((law18_head_f).bind fun x1 => ((disk_New_f (IntKind.i64.wrap a0)).bind fun x3 => match x3 with | none => some false | some x5 => ((law18_Great_f a1).bind fun x7 => (if x7 = true then some x1 else ((store_Open_f x5).bind fun x10 => ((lp (law18_StoreStays_b0 a1) (x10, false, false, 0, 0, [], [], [], x5, [], [])).bind fun q => match q with | .inl x37 => some x1 | .inr r => some r))))))
set_option maxHeartbeats 4000000 in
set_option maxRecDepth 20000 in
theorem law18_StoreStays_ok {w0 w : World} {ps : List PF} {fs : List SF} {a0 : Int} {a1 : List law18_Op} {A1_ : Option Addr} {c1_ : Nat} {r0 : Bool} (H : Hp w0 (rd k_law18_Op A1_ c1_ a1 :: ps) fs w) (h : law18_StoreStays_f a0 a1 = some r0) (ha0 : 0 ≤ a0 ∧ a0 < 256) :
  Calls Try.prog 3 [.int .u8 a0, .slice A1_ a1.length c1_].toArray w fun e w' => ∃ v, e = .returned v ∧ v = .bool r0 ∧ Hp w0 ps fs w' := by
 refine enter [.int .u8 a0, .slice A1_ a1.length c1_] 215 Try.func3 fun Q a NP RET NRM F => ?_
 replace NP : ∀ c a w, ¬ Q (.panic c) a w := fun c a w h => by rcases NP c a w h with h | ⟨w, v, h, _⟩ <;> cases h
 unfold law18_StoreStays_f at h
 refine rg ?_
 refine as_ F (v := .bool false) rfl fun a F => ?_
 refine rgend ?_
 refine rg ?_
 obtain ⟨x1, e2, h⟩ := Option.bind_eq_some_iff.1 h
 try dsimp only at h
 refine ls (call F Try.func10 (law18_head_ok (H) e2) rfl rfl fun v w hR a F => ?_)
 obtain ⟨rfl, H⟩ := hR
 refine as_ F rfl fun a F => ?_
 refine rgend ?_
 refine rg ?_
 refine mv F rfl fun a F => ?_
 refine qw F (r_ci (F.t 22 rfl) Try.underlying3 Try.underlying5) fun a F => ?_
 obtain ⟨x3, e4, h⟩ := Option.bind_eq_some_iff.1 h
 try dsimp only at h
 rcases x3 with _ | x5
 ·try dsimp only at h
  refine ls (call F Try.func11 (disk_New_ok (H) e4) rfl rfl fun v w hR a F => ?_)
  obtain ⟨rfl, H⟩ := hR
  refine as_ F rfl fun a F => ?_
  refine rgend ?_
  replace F := F.only [6, 5, 1] (l' := [(6, .pointer none), (5, .bool x1), (1, .slice A1_ a1.length c1_)]) rfl
  refine wp_seq ?_
  refine rg ?_
  refine mv F rfl fun a F => ?_
  refine qw F (r_peq0 (F.t 25 rfl) (F.ev (x := .const (.pointer none)) rfl) Try.underlying24) fun a F => ?_
  refine mv F rfl fun a F => ?_
  refine of_ F fun a F => ?_
  refine of_ F fun a F => ?_
  refine qw F (r_pickT (F.t 27 rfl) (F.ev (x := .const (.bool true)) rfl)) fun a F => ?_
  refine rgend ?_
  replace F := F.only [30, 6, 5, 1] (l' := [(30, .bool true), (6, .pointer none), (5, .bool x1), (1, .slice A1_ a1.length c1_)]) rfl
  refine wp_cond_true (F.ev rfl) ?_
  refine wp_seq ?_
  refine wp_region_lit ?_
  refine mv F rfl fun a F => ?_
  refine qw F (r_pne0 (F.t 31 rfl) (F.ev (x := .const (.pointer none)) rfl) Try.underlying24) fun a F => ?_
  refine mv F rfl fun a F => ?_
  refine of_ F fun a F => ?_
  refine qw F (r_pickF (F.t 33 rfl) (F.ev (x := .const (.bool false)) rfl)) fun a F => ?_
  refine as_ F rfl fun a F => ?_
  refine wpList_nil ?_
  replace F := F.only [4] (l' := [(4, .bool false)]) rfl
  refine wp_ret ?_
  try dsimp only at h
  obtain rfl := Option.some.inj h
  exact RET _ _ (ret1 F rfl rfl ⟨_, rfl, rfl, H.px0⟩)
 ·try dsimp only at h
  refine ls (call F Try.func11 (disk_New_ok (H) e4) rfl rfl fun v w hR a F => ?_)
  obtain ⟨g6, rfl, H⟩ := hR
  refine as_ F rfl fun a F => ?_
  refine rgend ?_
  replace F := F.only [6, 5, 1] (l' := [(6, .pointer (some ⟨g6, 0, none⟩)), (5, .bool x1), (1, .slice A1_ a1.length c1_)]) rfl
  refine wp_seq ?_
  refine rg ?_
  refine mv F rfl fun a F => ?_
  refine qw F (r_peq (F.t 25 rfl) (F.ev (x := .const (.pointer none)) rfl) Try.underlying24) fun a F => ?_
  refine mv F rfl fun a F => ?_
  refine mv F rfl fun a F => ?_
  obtain ⟨x7, e8, h⟩ := Option.bind_eq_some_iff.1 h
  try dsimp only at h
  refine ls (call F Try.func12 (law18_Great_ok (H.p0) e8) rfl rfl fun v w hR a F => ?_)
  obtain ⟨rfl, H⟩ := hR
  refine qw F (r_pickF (F.t 27 rfl) (F.t 29 rfl)) fun a F => ?_
  refine rgend ?_
  replace F := F.only [30, 6, 5, 1] (l' := [(30, .bool x7), (6, .pointer (some ⟨g6, 0, none⟩)), (5, .bool x1), (1, .slice A1_ a1.length c1_)]) rfl
  by_cases c9 : x7 = true
  ·rw [if_pos c9] at h
   rw [c9] at F
   refine wp_cond_true (F.ev rfl) ?_
   refine wp_seq ?_
   refine wp_region_lit ?_
   refine mv F rfl fun a F => ?_
   refine qw F (r_pne (F.t 31 rfl) (F.ev (x := .const (.pointer none)) rfl) Try.underlying24) fun a F => ?_
   refine mv F rfl fun a F => ?_
   refine mv F rfl fun a F => ?_
   refine qw F (r_pickT (F.t 33 rfl) (F.t 34 rfl)) fun a F => ?_
   refine as_ F rfl fun a F => ?_
   refine wpList_nil ?_
   replace F := F.only [4] (l' := [(4, .bool x1)]) rfl
   refine wp_ret ?_
   try dsimp only at h
   obtain rfl := Option.some.inj h
   exact RET _ _ (ret1 F rfl rfl ⟨_, rfl, rfl, H.px0.fx0⟩)
  ·rw [if_neg c9] at h
   rw [Bool.eq_false_iff.2 c9] at F
   refine wp_cond_false (F.ev rfl) ?_
   refine wp_skip ?_
   refine rg ?_
   refine mv F rfl fun a F => ?_
   obtain ⟨x10, e11, h⟩ := Option.bind_eq_some_iff.1 h
   try dsimp only at h
   refine ls (call F Try.func13 (store_Open_ok (H) e11) rfl rfl fun v w hR a F => ?_)
   obtain ⟨g12, rfl, H⟩ := hR
   refine as_ F rfl fun a F => ?_
   refine rgend ?_
   refine wp_seq ?_
   refine rg ?_
   refine mv F rfl fun a F => ?_
   refine qw F (r_peq (F.t 38 rfl) (F.ev (x := .const (.pointer none)) rfl) Try.underlying27) fun a F => ?_
   refine rgend ?_
   replace F := F.only [39, 7, 6, 5, 1] (l' := [(39, .bool false), (7, .pointer (some ⟨g12, 0, none⟩)), (6, .pointer (some ⟨g6, 0, none⟩)), (5, .bool x1), (1, .slice A1_ a1.length c1_)]) rfl
   refine wp_cond_false (F.ev rfl) ?_
   refine wp_skip ?_
   refine rg ?_
   refine ls (lal F H ti32 (cs := [.int .i64 0, .slice none 0 0, .slice none 0 0, .slice none 0 0]) rfl fun g13 w a H F => ?_)
   refine rgend ?_
   refine rg ?_
   refine ls (lal F H ti32 (cs := [.int .i64 0, .slice none 0 0, .slice none 0 0, .slice none 0 0]) rfl fun g14 w a H F => ?_)
   refine rgend ?_
   refine rg ?_
   refine as_ F (v := .bool false) rfl fun a F => ?_
   refine rgend ?_
   refine rg ?_
   refine as_ F (v := .bool false) rfl fun a F => ?_
   refine rgend ?_
   refine rg ?_
   refine as_ F (v := .int .i64 0) rfl fun a F => ?_
   refine rgend ?_
   refine wp_seq ?_
   refine rg ?_
   refine as_ F (v := .int .i64 0) rfl fun a F => ?_
   refine rgend ?_
   replace H := H.nilRd kByte
   replace H := H.nilRd (kSlice kByte)
   obtain ⟨o_37, k_37, h⟩ := Option.bind_eq_some_iff.1 h
   refine cut (fun a w => ∃ (x37 : disk_Disk), Sum.inl x37 = o_37 ∧ Fr 215 [] [(5, .bool x1)] a ∧ Hp w0 ps (obj_disk_Disk g6 x37 :: fs) w) (wp_block ?_) ?_
   ·refine wloop (law18_StoreStays_b0 a1) (fun (s : store_Store × Bool × Bool × Int × Int × (List Int) × (List (List Int)) × (List (List Int)) × disk_Disk × (List Int) × (List (List Int))) a w => ∃ (g15 : Nat) (A22 : Option Addr) (c23 : Nat) (A25 : Option Addr) (c26 : Nat) (A28 : Option Addr) (c29 : Nat) (A32 : Option Addr) (c33 : Nat) (A35 : Option Addr) (c36 : Nat), Fr 215 [] [(1, .slice A1_ a1.length c1_), (5, .bool x1), (6, .pointer (some ⟨g6, 0, none⟩)), (7, .pointer (some ⟨g15, 0, none⟩)), (8, .pointer (some ⟨g13, 0, none⟩)), (9, .pointer (some ⟨g14, 0, none⟩)), (10, .bool s.2.1), (11, .bool s.2.2.1), (12, .int .i64 s.2.2.2.1), (13, .int .i64 s.2.2.2.2.1)] a ∧ Hp w0 (rd kByte A22 c23 s.2.2.2.2.2.1 :: rd (kSlice kByte) A25 c26 s.2.2.2.2.2.2.1 :: rd (kSlice kByte) A28 c29 s.2.2.2.2.2.2.2.1 :: rd kByte A32 c33 s.2.2.2.2.2.2.2.2.2.1 :: rd (kSlice kByte) A35 c36 s.2.2.2.2.2.2.2.2.2.2 :: rd k_law18_Op A1_ c1_ a1 :: ps) (obj_store_Store g15 g6 s.1 :: cel g13 [.int .i64 0, .slice A22 s.2.2.2.2.2.1.length c23, .slice A25 s.2.2.2.2.2.2.1.length c26, .slice A28 s.2.2.2.2.2.2.2.1.length c29] 32 :: obj_disk_Disk g6 s.2.2.2.2.2.2.2.2.1 :: cel g14 [.int .i64 0, .slice A32 s.2.2.2.2.2.2.2.2.2.1.length c33, .slice A35 s.2.2.2.2.2.2.2.2.2.2.length c36, .slice none 0 0] 32 :: fs) w) k_37 ⟨g12, none, 0, none, 0, none, 0, none, 0, none, 0, F.only [1, 5, 6, 7, 8, 9, 10, 11, 12, 13] rfl, H.p2.p1.p3.p3.p4.p6.px6.px6.px6.f3.f2.f3⟩ ?_
    rintro ⟨x16, x17, x18, x19, x20, x21, x24, x27, x30, x31, x34⟩ a w q_37 j_37 u_37 ⟨g15, A22, c23, A25, c26, A28, c29, A32, c33, A35, c36, F, H⟩
    unfold law18_StoreStays_b0 at j_37
    try dsimp only at j_37 F H
    refine wp_seq ?_
    refine rg ?_
    refine mv F rfl fun a F => ?_
    refine mv F rfl fun a F => ?_
    refine qw F (r_len (F.t 41 rfl) Try.underlying22) fun a F => ?_
    refine qw F (r_lt (F.t 40 rfl) (F.t 42 rfl)) fun a F => ?_
    refine rgend ?_
    by_cases c39 : x20 < (a1.length : Int)
    ·rw [if_pos c39] at j_37
     rw [decide_eq_true c39] at F
     refine wp_cond_true (F.ev rfl) ?_
     refine wp_skip ?_
     refine wp_seq ?_
     refine wp_block ?_
     refine rg ?_
     refine mv F rfl fun a F => ?_
     refine mv F rfl fun a F => ?_
     obtain ⟨c40, j_37⟩ := guardO j_37
     obtain ⟨g41, o42, s43, hr, H⟩ := H.ix (⟨0, [], [], [], 0, []⟩ : law18_Op) 5 rfl (F.t 46 rfl) (F.t 47 rfl) Try.underlying22 sz35 (by decide) c40.1 c40.2
     obtain ⟨A44, c45, A46, c47, A48, c49, A50, c51, rfl, H⟩ := H.open_law18_Op 1 rfl
     refine qw F (hr _ _ _ _ _ _) fun a F => ?_
     refine qw F (r_ldA (F.t 48 rfl) (H.range 4 rfl) agg35 rfl) fun a F => ?_
     refine ls (lal F H ti35 (cs := [.int .i64 0, .slice none 0 0, .slice none 0 0, .slice none 0 0, .int .i64 0, .slice none 0 0]) rfl fun g52 w a H F => ?_)
     obtain ⟨_, hr, H⟩ := Hp.store (t := 35) (o := 0) (n := 6) (vs := [.int .i64 ((a1.getD (x20 : Int).toNat (⟨0, [], [], [], 0, []⟩ : law18_Op)).What), .slice A44 ((a1.getD (x20 : Int).toNat (⟨0, [], [], [], 0, []⟩ : law18_Op)).State).length c45, .slice A46 ((a1.getD (x20 : Int).toNat (⟨0, [], [], [], 0, []⟩ : law18_Op)).Kept).length c47, .slice A48 ((a1.getD (x20 : Int).toNat (⟨0, [], [], [], 0, []⟩ : law18_Op)).Entry).length c49, .int .i64 ((a1.getD (x20 : Int).toNat (⟨0, [], [], [], 0, []⟩ : law18_Op)).N), .slice A50 ((a1.getD (x20 : Int).toNat (⟨0, [], [], [], 0, []⟩ : law18_Op)).Keep).length c51]) (cs' := [.int .i64 ((a1.getD (x20 : Int).toNat (⟨0, [], [], [], 0, []⟩ : law18_Op)).What), .slice A44 ((a1.getD (x20 : Int).toNat (⟨0, [], [], [], 0, []⟩ : law18_Op)).State).length c45, .slice A46 ((a1.getD (x20 : Int).toNat (⟨0, [], [], [], 0, []⟩ : law18_Op)).Kept).length c47, .slice A48 ((a1.getD (x20 : Int).toNat (⟨0, [], [], [], 0, []⟩ : law18_Op)).Entry).length c49, .int .i64 ((a1.getD (x20 : Int).toNat (⟨0, [], [], [], 0, []⟩ : law18_Op)).N), .slice A50 ((a1.getD (x20 : Int).toNat (⟨0, [], [], [], 0, []⟩ : law18_Op)).Keep).length c51]) (H) (F.t 14 rfl) (F.t 49 rfl) rfl sz35 rfl (Nat.le_of_ble_eq_true rfl) rfl rfl
     refine ls (qn F (.inl rfl) (hr _ _ _ _) fun a F => ?_)
     refine rgend ?_
     replace F := F.only [14, 1, 5, 6, 7, 8, 9, 10, 11, 12, 13] (l' := [(14, .pointer (some ⟨g52, 0, none⟩)), (1, .slice A1_ a1.length c1_), (5, .bool x1), (6, .pointer (some ⟨g6, 0, none⟩)), (7, .pointer (some ⟨g15, 0, none⟩)), (8, .pointer (some ⟨g13, 0, none⟩)), (9, .pointer (some ⟨g14, 0, none⟩)), (10, .bool x17), (11, .bool x18), (12, .int .i64 x19), (13, .int .i64 x20)]) rfl
     refine rg ?_
     refine mv F rfl fun a F => ?_
     refine mv F rfl fun a F => ?_
     refine qw F (r_ldA (F.t 14 rfl) (cel_range (o := 0) (n := 6) (vs := [.int .i64 ((a1.getD (x20 : Int).toNat (⟨0, [], [], [], 0, []⟩ : law18_Op)).What), .slice A44 ((a1.getD (x20 : Int).toNat (⟨0, [], [], [], 0, []⟩ : law18_Op)).State).length c45, .slice A46 ((a1.getD (x20 : Int).toNat (⟨0, [], [], [], 0, []⟩ : law18_Op)).Kept).length c47, .slice A48 ((a1.getD (x20 : Int).toNat (⟨0, [], [], [], 0, []⟩ : law18_Op)).Entry).length c49, .int .i64 ((a1.getD (x20 : Int).toNat (⟨0, [], [], [], 0, []⟩ : law18_Op)).N), .slice A50 ((a1.getD (x20 : Int).toNat (⟨0, [], [], [], 0, []⟩ : law18_Op)).Keep).length c51]) (H.cell 0 rfl) rfl) agg35 rfl) fun a F => ?_
     obtain ⟨⟨x53, x54, x55⟩, e56, j_37⟩ := Option.bind_eq_some_iff.1 j_37
     try dsimp only at j_37
     refine ls (call F Try.func14 (law18_do_ok (a2 := (a1.getD (x20 : Int).toNat (⟨0, [], [], [], 0, []⟩ : law18_Op))) (H.p3.p3.p3.p3.f4.f3.f2.f3.f4) e56) rfl rfl fun v w hR a F => ?_)
     obtain ⟨g57, rfl, H⟩ := hR
     refine mv F rfl fun a F => ?_
     refine qw F (r_ex (F.t 50 rfl) rfl) fun a F => ?_
     refine qw F (r_ex (F.t 50 rfl) rfl) fun a F => ?_
     refine as_ F rfl fun a F => ?_
     refine as_ F rfl fun a F => ?_
     refine rgend ?_
     replace F := F.only [16, 15, 14, 1, 5, 6, 8, 9, 10, 11, 12, 13] (l' := [(16, .int .i64 x54), (15, .pointer (some ⟨g57, 0, none⟩)), (14, .pointer (some ⟨g52, 0, none⟩)), (1, .slice A1_ a1.length c1_), (5, .bool x1), (6, .pointer (some ⟨g6, 0, none⟩)), (8, .pointer (some ⟨g13, 0, none⟩)), (9, .pointer (some ⟨g14, 0, none⟩)), (10, .bool x17), (11, .bool x18), (12, .int .i64 x19), (13, .int .i64 x20)]) rfl
     refine wp_seq ?_
     refine rg ?_
     refine mv F rfl fun a F => ?_
     refine qw F (r_peq (F.t 57 rfl) (F.ev (x := .const (.pointer none)) rfl) Try.underlying27) fun a F => ?_
     refine rgend ?_
     refine wp_cond_false (F.ev rfl) ?_
     refine wp_skip ?_
     refine rg ?_
     refine mv F rfl fun a F => ?_
     refine as_ F rfl fun a F => ?_
     refine rgend ?_
     replace F := F.only [7, 16, 14, 1, 5, 6, 8, 9, 10, 11, 12, 13] (l' := [(7, .pointer (some ⟨g57, 0, none⟩)), (16, .int .i64 x54), (14, .pointer (some ⟨g52, 0, none⟩)), (1, .slice A1_ a1.length c1_), (5, .bool x1), (6, .pointer (some ⟨g6, 0, none⟩)), (8, .pointer (some ⟨g13, 0, none⟩)), (9, .pointer (some ⟨g14, 0, none⟩)), (10, .bool x17), (11, .bool x18), (12, .int .i64 x19), (13, .int .i64 x20)]) rfl
     refine wp_seq ?_
     replace H := H.drew
     have HS := H.fx1.fx0
     refine dr (fun w => Hp w0 (rd kByte A44 c45 ((a1.getD (x20 : Int).toNat (⟨0, [], [], [], 0, []⟩ : law18_Op)).State) :: rd (kSlice kByte) A46 c47 ((a1.getD (x20 : Int).toNat (⟨0, [], [], [], 0, []⟩ : law18_Op)).Kept) :: rd kByte A48 c49 ((a1.getD (x20 : Int).toNat (⟨0, [], [], [], 0, []⟩ : law18_Op)).Entry) :: rd kBool A50 c51 ((a1.getD (x20 : Int).toNat (⟨0, [], [], [], 0, []⟩ : law18_Op)).Keep) :: celz g41 o42 [.int .i64 ((a1.getD (x20 : Int).toNat (⟨0, [], [], [], 0, []⟩ : law18_Op)).What), .slice A44 ((a1.getD (x20 : Int).toNat (⟨0, [], [], [], 0, []⟩ : law18_Op)).State).length c45, .slice A46 ((a1.getD (x20 : Int).toNat (⟨0, [], [], [], 0, []⟩ : law18_Op)).Kept).length c47, .slice A48 ((a1.getD (x20 : Int).toNat (⟨0, [], [], [], 0, []⟩ : law18_Op)).Entry).length c49, .int .i64 ((a1.getD (x20 : Int).toNat (⟨0, [], [], [], 0, []⟩ : law18_Op)).N), .slice A50 ((a1.getD (x20 : Int).toNat (⟨0, [], [], [], 0, []⟩ : law18_Op)).Keep).length c51] :: says k_law18_Op [.int .i64 ((a1.getD (x20 : Int).toNat (⟨0, [], [], [], 0, []⟩ : law18_Op)).What), .slice A44 ((a1.getD (x20 : Int).toNat (⟨0, [], [], [], 0, []⟩ : law18_Op)).State).length c45, .slice A46 ((a1.getD (x20 : Int).toNat (⟨0, [], [], [], 0, []⟩ : law18_Op)).Kept).length c47, .slice A48 ((a1.getD (x20 : Int).toNat (⟨0, [], [], [], 0, []⟩ : law18_Op)).Entry).length c49, .int .i64 ((a1.getD (x20 : Int).toNat (⟨0, [], [], [], 0, []⟩ : law18_Op)).N), .slice A50 ((a1.getD (x20 : Int).toNat (⟨0, [], [], [], 0, []⟩ : law18_Op)).Keep).length c51] ((a1.getD (x20 : Int).toNat (⟨0, [], [], [], 0, []⟩ : law18_Op))) :: rd kByte A22 c23 x21 :: rd (kSlice kByte) A25 c26 x24 :: rd (kSlice kByte) A28 c29 x27 :: rd kByte A32 c33 x31 :: rd (kSlice kByte) A35 c36 x34 :: rd k_law18_Op A1_ c1_ a1 :: ps) (cel g52 [.int .i64 ((a1.getD (x20 : Int).toNat (⟨0, [], [], [], 0, []⟩ : law18_Op)).What), .slice A44 ((a1.getD (x20 : Int).toNat (⟨0, [], [], [], 0, []⟩ : law18_Op)).State).length c45, .slice A46 ((a1.getD (x20 : Int).toNat (⟨0, [], [], [], 0, []⟩ : law18_Op)).Kept).length c47, .slice A48 ((a1.getD (x20 : Int).toNat (⟨0, [], [], [], 0, []⟩ : law18_Op)).Entry).length c49, .int .i64 ((a1.getD (x20 : Int).toNat (⟨0, [], [], [], 0, []⟩ : law18_Op)).N), .slice A50 ((a1.getD (x20 : Int).toNat (⟨0, [], [], [], 0, []⟩ : law18_Op)).Keep).length c51] 35 :: cel g13 [.int .i64 0, .slice A22 x21.length c23, .slice A25 x24.length c26, .slice A28 x27.length c29] 32 :: cel g14 [.int .i64 0, .slice A32 x31.length c33, .slice A35 x34.length c36, .slice none 0 0] 32 :: fs) w) _ (by kernel_rfl) ?_ (n := 8)
     refine dq 1 F rfl (by kernel_rfl) NP HS (fun w S => (r_fa (off := 2) (F.t 8 rfl) fa32_2)) fun a F => ?_
     refine dq 2 F rfl (by kernel_rfl) NP HS (fun w S => (r_ld (F.t 61 rfl) (cel_cell (o := 2) (S.cell 1 rfl) rfl) one30)) fun a F => ?_
     refine dq 4 F rfl (by kernel_rfl) NP HS (fun w S => (r_fa (off := 3) (F.t 8 rfl) fa32_3)) fun a F => ?_
     refine dq 5 F rfl (by kernel_rfl) NP HS (fun w S => (r_ld (F.t 64 rfl) (cel_cell (o := 3) (S.cell 1 rfl) rfl) one30)) fun a F => ?_
     refine d1 0 rfl (by kernel_rfl) (lbs F H (e := 29) (vs := []) (cs := []) rfl (fun w => by kernel_rfl) fun g58 w a H F => ?_)
     have HS := H.fx2.fx1.fx0
     refine kg _ HS (fun w S => S) ?_
     replace H := Hp.litOwn (kd := (kSlice kByte)) (xs := []) (H) (SayL.nil) (Nat.le_of_ble_eq_true rfl)
     obtain ⟨c59, j_37⟩ := guardO j_37
     obtain ⟨A60, c61, _, hr, H⟩ := Hp.appendRd (kd := (kSlice kByte)) (xs := []) (ys := x24) (H) 7 rfl (F.t 60 rfl) (F.t 62 rfl) Try.underlying30 ti29 rfl (by decide) (by decide) c59
     rw [List.nil_append] at hr H
     refine d1 3 rfl (by kernel_rfl) (qv F (hr _ _ _ _ _) fun a F => ?_)
     have HS := H.fx2.fx1.fx0
     refine kg _ HS (fun w S => S) ?_
     obtain ⟨c62, j_37⟩ := guardO j_37
     obtain ⟨A63, c64, _, hr, H⟩ := Hp.appendRd (kd := (kSlice kByte)) (xs := x24) (ys := x27) (H) 8 rfl (F.t 63 rfl) (F.t 65 rfl) Try.underlying30 ti29 rfl (by decide) (by decide) c62
     refine d1 6 rfl (by kernel_rfl) (qv F (hr _ _ _ _ _) fun a F => ?_)
     have HS := H.fx2.fx1.fx0
     refine kg _ HS (fun w S => S) ?_
     refine dq 7 F rfl (by kernel_rfl) NP HS (fun w S => (r_as (F.t 66 rfl))) fun a F => ?_
     refine ddone (by kernel_rfl) ?_
     replace F := F.only [17, 7, 16, 14, 1, 5, 6, 8, 9, 10, 11, 12, 13] (l' := [(17, .slice A63 (x24 ++ x27).length c64), (7, .pointer (some ⟨g57, 0, none⟩)), (16, .int .i64 x54), (14, .pointer (some ⟨g52, 0, none⟩)), (1, .slice A1_ a1.length c1_), (5, .bool x1), (6, .pointer (some ⟨g6, 0, none⟩)), (8, .pointer (some ⟨g13, 0, none⟩)), (9, .pointer (some ⟨g14, 0, none⟩)), (10, .bool x17), (11, .bool x18), (12, .int .i64 x19), (13, .int .i64 x20)]) rfl
     refine wp_block ?_
     refine rg ?_
     refine qw F (r_fa (off := 0) (F.t 14 rfl) fa35_0) fun a F => ?_
     refine qw F (r_ld (F.t 68 rfl) (cel_cell (o := 0) (H.cell 3 rfl) rfl) one3) fun a F => ?_
     refine qw F (r_eq (F.t 69 rfl) (F.ev (x := .const (.int .i64 7)) rfl)) fun a F => ?_
     refine as_ F rfl fun a F => ?_
     refine rgend ?_
     obtain ⟨o_82, k_82, j_37⟩ := Option.bind_eq_some_iff.1 j_37
     refine cut (fun a w => ∃ (x65 : Bool) (x66 : Bool) (x67 : Int) (x68 : List Int) (x71 : List (List Int)) (x74 : List (List Int)) (x77 : List Int) (x80 : List (List Int)), Sum.inl (x65, x66, x67, x68, x71, x74, x77, x80) = o_82 ∧ ∃ (A69 : Option Addr) (c70 : Nat) (A72 : Option Addr) (c73 : Nat) (A75 : Option Addr) (c76 : Nat) (A78 : Option Addr) (c79 : Nat) (A81 : Option Addr) (c82 : Nat), Fr 215 [] [(1, .slice A1_ a1.length c1_), (5, .bool x1), (6, .pointer (some ⟨g6, 0, none⟩)), (7, .pointer (some ⟨g57, 0, none⟩)), (8, .pointer (some ⟨g13, 0, none⟩)), (9, .pointer (some ⟨g14, 0, none⟩)), (10, .bool x65), (11, .bool x66), (12, .int .i64 x67), (13, .int .i64 x20)] a ∧ Hp w0 (rd kByte A69 c70 x68 :: rd (kSlice kByte) A72 c73 x71 :: rd (kSlice kByte) A75 c76 x74 :: rd kByte A78 c79 x77 :: rd (kSlice kByte) A81 c82 x80 :: rd k_law18_Op A1_ c1_ a1 :: ps) (cel g13 [.int .i64 0, .slice A69 x68.length c70, .slice A72 x71.length c73, .slice A75 x74.length c76] 32 :: obj_disk_Disk g6 x55 :: cel g14 [.int .i64 0, .slice A78 x77.length c79, .slice A81 x80.length c82, .slice none 0 0] 32 :: obj_store_Store g57 g6 x53 :: fs) w) ?_ ?_
     ·skip
      by_cases c84 : ((a1.getD (x20 : Int).toNat (⟨0, [], [], [], 0, []⟩ : law18_Op)).What) = 7
      ·rw [if_pos c84] at k_82
       rw [decide_eq_true c84] at F
       refine wp_cond_true (F.ev rfl) ?_
       refine rg ?_
       refine mv F rfl fun a F => ?_
       obtain ⟨x85, e86, k_82⟩ := Option.bind_eq_some_iff.1 k_82
       try dsimp only at k_82
       refine ls (call F Try.func15 (store_Store_Entries_ok (H.f5.f5.f5.f5.f4.f5) e86) rfl rfl fun v w hR a F => ?_)
       obtain ⟨A87, c88, rfl, H⟩ := hR
       refine as_ F rfl fun a F => ?_
       refine rgend ?_
       replace F := F.only [18, 17, 7, 1, 5, 6, 8, 9, 10, 11, 12, 13] (l' := [(18, .slice A87 x85.length c88), (17, .slice A63 (x24 ++ x27).length c64), (7, .pointer (some ⟨g57, 0, none⟩)), (1, .slice A1_ a1.length c1_), (5, .bool x1), (6, .pointer (some ⟨g6, 0, none⟩)), (8, .pointer (some ⟨g13, 0, none⟩)), (9, .pointer (some ⟨g14, 0, none⟩)), (10, .bool x17), (11, .bool x18), (12, .int .i64 x19), (13, .int .i64 x20)]) rfl
       refine wp_seq ?_
       obtain ⟨o_90, k_90, k_82⟩ := Option.bind_eq_some_iff.1 k_82
       refine cut (fun a w => ∃ (x89 : Bool) (x90 : Bool), (x89, x90) = o_90 ∧ Fr 215 [] [(1, .slice A1_ a1.length c1_), (5, .bool x1), (6, .pointer (some ⟨g6, 0, none⟩)), (7, .pointer (some ⟨g57, 0, none⟩)), (8, .pointer (some ⟨g13, 0, none⟩)), (9, .pointer (some ⟨g14, 0, none⟩)), (10, .bool x89), (11, .bool x18), (13, .int .i64 x20), (18, .slice A87 x85.length c88), (19, .bool x90)] a ∧ Hp w0 (rd k_law18_Op A1_ c1_ a1 :: rd (kSlice kByte) A87 c88 x85 :: rd kByte A22 c23 x21 :: rd (kSlice kByte) A25 c26 x24 :: rd (kSlice kByte) A28 c29 x27 :: rd kByte A32 c33 x31 :: rd (kSlice kByte) A35 c36 x34 :: ps) (cel g13 [.int .i64 0, .slice A22 x21.length c23, .slice A25 x24.length c26, .slice A28 x27.length c29] 32 :: obj_disk_Disk g6 x55 :: cel g14 [.int .i64 0, .slice A32 x31.length c33, .slice A35 x34.length c36, .slice none 0 0] 32 :: obj_store_Store g57 g6 x53 :: fs) w) ?_ ?_
       ·skip
        replace H := H.drew
        have HS := H.fx3.fx2.fx1.fx0
        refine dr (fun w => Hp w0 (rd kByte A44 c45 ((a1.getD (x20 : Int).toNat (⟨0, [], [], [], 0, []⟩ : law18_Op)).State) :: rd (kSlice kByte) A46 c47 ((a1.getD (x20 : Int).toNat (⟨0, [], [], [], 0, []⟩ : law18_Op)).Kept) :: rd kByte A48 c49 ((a1.getD (x20 : Int).toNat (⟨0, [], [], [], 0, []⟩ : law18_Op)).Entry) :: rd kBool A50 c51 ((a1.getD (x20 : Int).toNat (⟨0, [], [], [], 0, []⟩ : law18_Op)).Keep) :: celz g41 o42 [.int .i64 ((a1.getD (x20 : Int).toNat (⟨0, [], [], [], 0, []⟩ : law18_Op)).What), .slice A44 ((a1.getD (x20 : Int).toNat (⟨0, [], [], [], 0, []⟩ : law18_Op)).State).length c45, .slice A46 ((a1.getD (x20 : Int).toNat (⟨0, [], [], [], 0, []⟩ : law18_Op)).Kept).length c47, .slice A48 ((a1.getD (x20 : Int).toNat (⟨0, [], [], [], 0, []⟩ : law18_Op)).Entry).length c49, .int .i64 ((a1.getD (x20 : Int).toNat (⟨0, [], [], [], 0, []⟩ : law18_Op)).N), .slice A50 ((a1.getD (x20 : Int).toNat (⟨0, [], [], [], 0, []⟩ : law18_Op)).Keep).length c51] :: says k_law18_Op [.int .i64 ((a1.getD (x20 : Int).toNat (⟨0, [], [], [], 0, []⟩ : law18_Op)).What), .slice A44 ((a1.getD (x20 : Int).toNat (⟨0, [], [], [], 0, []⟩ : law18_Op)).State).length c45, .slice A46 ((a1.getD (x20 : Int).toNat (⟨0, [], [], [], 0, []⟩ : law18_Op)).Kept).length c47, .slice A48 ((a1.getD (x20 : Int).toNat (⟨0, [], [], [], 0, []⟩ : law18_Op)).Entry).length c49, .int .i64 ((a1.getD (x20 : Int).toNat (⟨0, [], [], [], 0, []⟩ : law18_Op)).N), .slice A50 ((a1.getD (x20 : Int).toNat (⟨0, [], [], [], 0, []⟩ : law18_Op)).Keep).length c51] ((a1.getD (x20 : Int).toNat (⟨0, [], [], [], 0, []⟩ : law18_Op))) :: rd kByte A22 c23 x21 :: rd (kSlice kByte) A25 c26 x24 :: rd (kSlice kByte) A28 c29 x27 :: rd kByte A32 c33 x31 :: rd (kSlice kByte) A35 c36 x34 :: rd k_law18_Op A1_ c1_ a1 :: ps) (cel g52 [.int .i64 ((a1.getD (x20 : Int).toNat (⟨0, [], [], [], 0, []⟩ : law18_Op)).What), .slice A44 ((a1.getD (x20 : Int).toNat (⟨0, [], [], [], 0, []⟩ : law18_Op)).State).length c45, .slice A46 ((a1.getD (x20 : Int).toNat (⟨0, [], [], [], 0, []⟩ : law18_Op)).Kept).length c47, .slice A48 ((a1.getD (x20 : Int).toNat (⟨0, [], [], [], 0, []⟩ : law18_Op)).Entry).length c49, .int .i64 ((a1.getD (x20 : Int).toNat (⟨0, [], [], [], 0, []⟩ : law18_Op)).N), .slice A50 ((a1.getD (x20 : Int).toNat (⟨0, [], [], [], 0, []⟩ : law18_Op)).Keep).length c51] 35 :: cel g13 [.int .i64 0, .slice A22 x21.length c23, .slice A25 x24.length c26, .slice A28 x27.length c29] 32 :: cel g14 [.int .i64 0, .slice A32 x31.length c33, .slice A35 x34.length c36, .slice none 0 0] 32 :: fs) w) _ (by kernel_rfl) ?_ (n := 21)
        refine dq 0 F rfl (by kernel_rfl) NP HS (fun w S => (r_mv (F.t 10 rfl))) fun a F => ?_
        refine dq 1 F rfl (by kernel_rfl) NP HS (fun w S => (r_mv (F.t 73 rfl))) fun a F => ?_
        by_cases c92 : x17 = true
        ·rw [if_pos c92] at k_90
         rw [c92] at F
         refine dq 2 F rfl (by kernel_rfl) NP HS (fun w S => (r_mv (F.t 7 rfl))) fun a F => ?_
         obtain ⟨x93, e94, k_90⟩ := Option.bind_eq_some_iff.1 k_90
         try dsimp only at k_90
         refine d1 3 rfl (by kernel_rfl) (call F Try.func16 (store_Store_Has_ok (H.f6.f6.f6.f6.f6.f5.f6) e94) rfl rfl fun v w hR a F => ?_)
         obtain ⟨rfl, H⟩ := hR
         have HS := H.fx3.fx2.fx1.fx0
         refine kg _ HS (fun w S => S) ?_
         refine dq 4 F rfl (by kernel_rfl) NP HS (fun w S => (r_pickT (F.t 74 rfl) (F.t 76 rfl))) fun a F => ?_
         refine dq 5 F rfl (by kernel_rfl) NP HS (fun w S => (r_mv (F.t 77 rfl))) fun a F => ?_
         by_cases c95 : x93 = true
         ·rw [if_pos c95] at k_90
          rw [c95] at F
          refine dq 6 F rfl (by kernel_rfl) NP HS (fun w S => (r_mv (F.t 7 rfl))) fun a F => ?_
          refine dq 9 F rfl (by kernel_rfl) NP HS (fun w S => (r_fa (off := 1) (F.t 8 rfl) fa32_1)) fun a F => ?_
          refine dq 10 F rfl (by kernel_rfl) NP HS (fun w S => (r_ld (F.t 82 rfl) (cel_cell (o := 1) (S.cell 1 rfl) rfl) one29)) fun a F => ?_
          have hb96 := H.bytes 6 rfl
          refine dq 11 F rfl (by kernel_rfl) NP HS (fun w S => (S.str 6 rfl (F.t 83 rfl) Try.underlying29 Try.underlying5 Try.underlying9)) fun a F => ?_
          obtain ⟨x97, e98, k_90⟩ := Option.bind_eq_some_iff.1 k_90
          try dsimp only at k_90
          refine d1 7 rfl (by kernel_rfl) (call F Try.func17 (store_Store_State_ok (H) e98) rfl rfl fun v w hR a F => ?_)
          obtain ⟨A99, c100, rfl, H⟩ := hR
          have HS := H.fx4.fx3.fx2.fx1.fx0
          refine kg _ HS (fun w S => S) ?_
          replace H := (H).freeze
          have hb101 := H.bytes 0 rfl
          have HS := H.fx3.fx2.fx1.fx0
          refine dmoreH HS (fun w S => S.px0) ?_
          refine dq 8 F rfl (by kernel_rfl) NP HS (fun w S => (S.str 0 rfl (F.t 80 rfl) Try.underlying29 Try.underlying5 Try.underlying9)) fun a F => ?_
          refine dq 12 F rfl (by kernel_rfl) NP HS (fun w S => (r_seq (F.t 81 rfl) (F.t 84 rfl) hb101 hb96)) fun a F => ?_
          refine dq 13 F rfl (by kernel_rfl) NP HS (fun w S => (r_pickT (F.t 78 rfl) (F.t 85 rfl))) fun a F => ?_
          refine dq 14 F rfl (by kernel_rfl) NP HS (fun w S => (r_mv (F.t 86 rfl))) fun a F => ?_
          by_cases c102 : x97 = x21
          ·rw [if_pos c102] at k_90
           rw [decide_eq_true c102] at F
           refine dq 15 F rfl (by kernel_rfl) NP HS (fun w S => (r_mv (F.t 18 rfl))) fun a F => ?_
           refine dq 16 F rfl (by kernel_rfl) NP HS (fun w S => (r_mv (F.t 17 rfl))) fun a F => ?_
           refine dq 17 F rfl (by kernel_rfl) NP HS (fun w S => (r_mv (F.t 12 rfl))) fun a F => ?_
           replace H := (H.f6.f6.f6.f6.f6.f5.f6).freeze
           replace H := (H.f5.f5.f5.f5.f4.f5).freeze
           obtain ⟨x103, e104, k_90⟩ := Option.bind_eq_some_iff.1 k_90
           try dsimp only at k_90
           refine d1 18 rfl (by kernel_rfl) (call F Try.func18 (law18_beginning_ok (H.p0.p2) e104) rfl rfl fun v w hR a F => ?_)
           obtain ⟨rfl, H⟩ := hR
           have HS := H.fx1.fx0
           refine kg _ HS (fun w S => S.px1.px0) ?_
           refine dq 19 F rfl (by kernel_rfl) NP HS (fun w S => (r_pickT (F.t 87 rfl) (F.t 91 rfl))) fun a F => ?_
           refine dq 20 F rfl (by kernel_rfl) NP HS (fun w S => (r_as (F.t 92 rfl))) fun a F => ?_
           refine ddone (by kernel_rfl) ?_
           replace F := F.only [19, 18, 7, 1, 5, 6, 8, 9, 10, 11, 13] (l' := [(19, .bool x103), (18, .slice A87 x85.length c88), (7, .pointer (some ⟨g57, 0, none⟩)), (1, .slice A1_ a1.length c1_), (5, .bool x1), (6, .pointer (some ⟨g6, 0, none⟩)), (8, .pointer (some ⟨g13, 0, none⟩)), (9, .pointer (some ⟨g14, 0, none⟩)), (10, .bool true), (11, .bool x18), (13, .int .i64 x20)]) rfl
           try dsimp only at k_90
           obtain rfl := Option.some.inj k_90
           exact ⟨_, _, rfl, F.only [1, 5, 6, 7, 8, 9, 10, 11, 13, 18, 19] rfl, H.p13.p13.p13.p13.p13.p6.p20.px7.px7.px7.px7.px7.px7.px7.px7.px7.px7.px7.px7.px7.px7.px7.f4.f2.f4.fx4⟩
          ·rw [if_neg c102] at k_90
           rw [decide_eq_false c102] at F
           refine doff 15 F rfl (by kernel_rfl) NP HS fun a F => ?_
           refine doff 16 F rfl (by kernel_rfl) NP HS fun a F => ?_
           refine doff 17 F rfl (by kernel_rfl) NP HS fun a F => ?_
           refine doff 18 F rfl (by kernel_rfl) NP HS fun a F => ?_
           refine dq 19 F rfl (by kernel_rfl) NP HS (fun w S => (r_pickF (F.t 87 rfl) (F.ev (x := .const (.bool false)) rfl))) fun a F => ?_
           refine dq 20 F rfl (by kernel_rfl) NP HS (fun w S => (r_as (F.t 92 rfl))) fun a F => ?_
           refine ddone (by kernel_rfl) ?_
           replace F := F.only [19, 18, 7, 1, 5, 6, 8, 9, 10, 11, 13] (l' := [(19, .bool false), (18, .slice A87 x85.length c88), (7, .pointer (some ⟨g57, 0, none⟩)), (1, .slice A1_ a1.length c1_), (5, .bool x1), (6, .pointer (some ⟨g6, 0, none⟩)), (8, .pointer (some ⟨g13, 0, none⟩)), (9, .pointer (some ⟨g14, 0, none⟩)), (10, .bool true), (11, .bool x18), (13, .int .i64 x20)]) rfl
           replace H := (H.f6.f6.f6.f6.f6.f5.f6).freeze
           try dsimp only at k_90
           obtain rfl := Option.some.inj k_90
           exact ⟨_, _, rfl, F.only [1, 5, 6, 7, 8, 9, 10, 11, 13, 18, 19] rfl, H.p12.p12.p12.p12.p12.p5.p19.px7.px7.px7.px7.px7.px7.px7.px7.px7.px7.px7.px7.px7.px7.f5.f3.f5.fx5.fx4⟩
         ·rw [if_neg c95] at k_90
          rw [Bool.eq_false_iff.2 c95] at F
          refine doff 6 F rfl (by kernel_rfl) NP HS fun a F => ?_
          refine doff 7 F rfl (by kernel_rfl) NP HS fun a F => ?_
          refine doff 8 F rfl (by kernel_rfl) NP HS fun a F => ?_
          refine doff 9 F rfl (by kernel_rfl) NP HS fun a F => ?_
          refine doff 10 F rfl (by kernel_rfl) NP HS fun a F => ?_
          refine doff 11 F rfl (by kernel_rfl) NP HS fun a F => ?_
          refine doff 12 F rfl (by kernel_rfl) NP HS fun a F => ?_
          refine dq 13 F rfl (by kernel_rfl) NP HS (fun w S => (r_pickF (F.t 78 rfl) (F.ev (x := .const (.bool false)) rfl))) fun a F => ?_
          refine dq 14 F rfl (by kernel_rfl) NP HS (fun w S => (r_mv (F.t 86 rfl))) fun a F => ?_
          refine doff 15 F rfl (by kernel_rfl) NP HS fun a F => ?_
          refine doff 16 F rfl (by kernel_rfl) NP HS fun a F => ?_
          refine doff 17 F rfl (by kernel_rfl) NP HS fun a F => ?_
          refine doff 18 F rfl (by kernel_rfl) NP HS fun a F => ?_
          refine dq 19 F rfl (by kernel_rfl) NP HS (fun w S => (r_pickF (F.t 87 rfl) (F.ev (x := .const (.bool false)) rfl))) fun a F => ?_
          refine dq 20 F rfl (by kernel_rfl) NP HS (fun w S => (r_as (F.t 92 rfl))) fun a F => ?_
          refine ddone (by kernel_rfl) ?_
          replace F := F.only [19, 18, 7, 1, 5, 6, 8, 9, 10, 11, 13] (l' := [(19, .bool false), (18, .slice A87 x85.length c88), (7, .pointer (some ⟨g57, 0, none⟩)), (1, .slice A1_ a1.length c1_), (5, .bool x1), (6, .pointer (some ⟨g6, 0, none⟩)), (8, .pointer (some ⟨g13, 0, none⟩)), (9, .pointer (some ⟨g14, 0, none⟩)), (10, .bool true), (11, .bool x18), (13, .int .i64 x20)]) rfl
          replace H := (H.f6.f6.f6.f6.f6.f5.f6).freeze
          try dsimp only at k_90
          obtain rfl := Option.some.inj k_90
          exact ⟨_, _, rfl, F.only [1, 5, 6, 7, 8, 9, 10, 11, 13, 18, 19] rfl, H.p11.p11.p11.p11.p11.p5.p18.px7.px7.px7.px7.px7.px7.px7.px7.px7.px7.px7.px7.px7.f5.f3.f5.fx5.fx4⟩
        ·rw [if_neg c92] at k_90
         rw [Bool.eq_false_iff.2 c92] at F
         refine doff 2 F rfl (by kernel_rfl) NP HS fun a F => ?_
         refine doff 3 F rfl (by kernel_rfl) NP HS fun a F => ?_
         refine dq 4 F rfl (by kernel_rfl) NP HS (fun w S => (r_pickF (F.t 74 rfl) (F.ev (x := .const (.bool false)) rfl))) fun a F => ?_
         refine dq 5 F rfl (by kernel_rfl) NP HS (fun w S => (r_mv (F.t 77 rfl))) fun a F => ?_
         refine doff 6 F rfl (by kernel_rfl) NP HS fun a F => ?_
         refine doff 7 F rfl (by kernel_rfl) NP HS fun a F => ?_
         refine doff 8 F rfl (by kernel_rfl) NP HS fun a F => ?_
         refine doff 9 F rfl (by kernel_rfl) NP HS fun a F => ?_
         refine doff 10 F rfl (by kernel_rfl) NP HS fun a F => ?_
         refine doff 11 F rfl (by kernel_rfl) NP HS fun a F => ?_
         refine doff 12 F rfl (by kernel_rfl) NP HS fun a F => ?_
         refine dq 13 F rfl (by kernel_rfl) NP HS (fun w S => (r_pickF (F.t 78 rfl) (F.ev (x := .const (.bool false)) rfl))) fun a F => ?_
         refine dq 14 F rfl (by kernel_rfl) NP HS (fun w S => (r_mv (F.t 86 rfl))) fun a F => ?_
         refine doff 15 F rfl (by kernel_rfl) NP HS fun a F => ?_
         refine doff 16 F rfl (by kernel_rfl) NP HS fun a F => ?_
         refine doff 17 F rfl (by kernel_rfl) NP HS fun a F => ?_
         refine doff 18 F rfl (by kernel_rfl) NP HS fun a F => ?_
         refine dq 19 F rfl (by kernel_rfl) NP HS (fun w S => (r_pickF (F.t 87 rfl) (F.ev (x := .const (.bool false)) rfl))) fun a F => ?_
         refine dq 20 F rfl (by kernel_rfl) NP HS (fun w S => (r_as (F.t 92 rfl))) fun a F => ?_
         refine ddone (by kernel_rfl) ?_
         replace F := F.only [19, 18, 7, 1, 5, 6, 8, 9, 10, 11, 13] (l' := [(19, .bool false), (18, .slice A87 x85.length c88), (7, .pointer (some ⟨g57, 0, none⟩)), (1, .slice A1_ a1.length c1_), (5, .bool x1), (6, .pointer (some ⟨g6, 0, none⟩)), (8, .pointer (some ⟨g13, 0, none⟩)), (9, .pointer (some ⟨g14, 0, none⟩)), (10, .bool false), (11, .bool x18), (13, .int .i64 x20)]) rfl
         replace H := (H).freeze
         try dsimp only at k_90
         obtain rfl := Option.some.inj k_90
         exact ⟨_, _, rfl, F.only [1, 5, 6, 7, 8, 9, 10, 11, 13, 18, 19] rfl, H.p11.p11.p11.p11.p11.p5.p18.px7.px7.px7.px7.px7.px7.px7.px7.px7.px7.px7.px7.px7.f5.f3.f5.fx5.fx4⟩
       ·rintro a w ⟨x89, x90, rfl, F, H⟩
        try dsimp only at k_82 F H
        refine wp_seq ?_
        obtain ⟨o_105, k_105, k_82⟩ := Option.bind_eq_some_iff.1 k_82
        refine cut (fun a w => ∃ (x105 : Bool), x105 = o_105 ∧ Fr 215 [] [(1, .slice A1_ a1.length c1_), (5, .bool x1), (6, .pointer (some ⟨g6, 0, none⟩)), (7, .pointer (some ⟨g57, 0, none⟩)), (8, .pointer (some ⟨g13, 0, none⟩)), (9, .pointer (some ⟨g14, 0, none⟩)), (10, .bool x89), (13, .int .i64 x20), (18, .slice A87 x85.length c88), (19, .bool x90), (20, .bool x105)] a ∧ Hp w0 (rd k_law18_Op A1_ c1_ a1 :: rd (kSlice kByte) A87 c88 x85 :: rd kByte A22 c23 x21 :: rd (kSlice kByte) A25 c26 x24 :: rd (kSlice kByte) A28 c29 x27 :: rd kByte A32 c33 x31 :: rd (kSlice kByte) A35 c36 x34 :: ps) (cel g13 [.int .i64 0, .slice A22 x21.length c23, .slice A25 x24.length c26, .slice A28 x27.length c29] 32 :: obj_disk_Disk g6 x55 :: cel g14 [.int .i64 0, .slice A32 x31.length c33, .slice A35 x34.length c36, .slice none 0 0] 32 :: obj_store_Store g57 g6 x53 :: fs) w) ?_ ?_
        ·skip
         replace H := H.drew
         have HS := H.fx3.fx1
         refine dr (fun w => Hp w0 (rd k_law18_Op A1_ c1_ a1 :: rd (kSlice kByte) A87 c88 x85 :: rd kByte A22 c23 x21 :: rd (kSlice kByte) A25 c26 x24 :: rd (kSlice kByte) A28 c29 x27 :: rd kByte A32 c33 x31 :: rd (kSlice kByte) A35 c36 x34 :: ps) (cel g13 [.int .i64 0, .slice A22 x21.length c23, .slice A25 x24.length c26, .slice A28 x27.length c29] 32 :: cel g14 [.int .i64 0, .slice A32 x31.length c33, .slice A35 x34.length c36, .slice none 0 0] 32 :: fs) w) _ (by kernel_rfl) ?_ (n := 21)
         refine dq 0 F rfl (by kernel_rfl) NP HS (fun w S => (r_mv (F.t 11 rfl))) fun a F => ?_
         refine dq 1 F rfl (by kernel_rfl) NP HS (fun w S => (r_mv (F.t 93 rfl))) fun a F => ?_
         by_cases c107 : x18 = true
         ·rw [if_pos c107] at k_105
          rw [c107] at F
          refine dq 2 F rfl (by kernel_rfl) NP HS (fun w S => (r_mv (F.t 7 rfl))) fun a F => ?_
          obtain ⟨x108, e109, k_105⟩ := Option.bind_eq_some_iff.1 k_105
          try dsimp only at k_105
          refine d1 3 rfl (by kernel_rfl) (call F Try.func16 (store_Store_Has_ok (H.f2.f2.f2.f3) e109) rfl rfl fun v w hR a F => ?_)
          obtain ⟨rfl, H⟩ := hR
          have HS := H.fx2.fx0
          refine kg _ HS (fun w S => S) ?_
          refine dq 4 F rfl (by kernel_rfl) NP HS (fun w S => (r_pickT (F.t 94 rfl) (F.t 96 rfl))) fun a F => ?_
          refine dq 5 F rfl (by kernel_rfl) NP HS (fun w S => (r_mv (F.t 97 rfl))) fun a F => ?_
          by_cases c110 : x108 = true
          ·rw [if_pos c110] at k_105
           rw [c110] at F
           refine dq 6 F rfl (by kernel_rfl) NP HS (fun w S => (r_mv (F.t 7 rfl))) fun a F => ?_
           refine dq 9 F rfl (by kernel_rfl) NP HS (fun w S => (r_fa (off := 1) (F.t 9 rfl) fa32_1)) fun a F => ?_
           refine dq 10 F rfl (by kernel_rfl) NP HS (fun w S => (r_ld (F.t 102 rfl) (cel_cell (o := 1) (S.cell 1 rfl) rfl) one29)) fun a F => ?_
           have hb111 := H.bytes 5 rfl
           refine dq 11 F rfl (by kernel_rfl) NP HS (fun w S => (S.str 5 rfl (F.t 103 rfl) Try.underlying29 Try.underlying5 Try.underlying9)) fun a F => ?_
           obtain ⟨x112, e113, k_105⟩ := Option.bind_eq_some_iff.1 k_105
           try dsimp only at k_105
           refine d1 7 rfl (by kernel_rfl) (call F Try.func17 (store_Store_State_ok (H) e113) rfl rfl fun v w hR a F => ?_)
           obtain ⟨A114, c115, rfl, H⟩ := hR
           have HS := H.fx3.fx1.fx0
           refine kg _ HS (fun w S => S) ?_
           replace H := (H).freeze
           have hb116 := H.bytes 0 rfl
           have HS := H.fx2.fx0
           refine dmoreH HS (fun w S => S.px0) ?_
           refine dq 8 F rfl (by kernel_rfl) NP HS (fun w S => (S.str 0 rfl (F.t 100 rfl) Try.underlying29 Try.underlying5 Try.underlying9)) fun a F => ?_
           refine dq 12 F rfl (by kernel_rfl) NP HS (fun w S => (r_seq (F.t 101 rfl) (F.t 104 rfl) hb116 hb111)) fun a F => ?_
           refine dq 13 F rfl (by kernel_rfl) NP HS (fun w S => (r_pickT (F.t 98 rfl) (F.t 105 rfl))) fun a F => ?_
           refine dq 14 F rfl (by kernel_rfl) NP HS (fun w S => (r_mv (F.t 106 rfl))) fun a F => ?_
           by_cases c117 : x112 = x31
           ·rw [if_pos c117] at k_105
            rw [decide_eq_true c117] at F
            refine dq 15 F rfl (by kernel_rfl) NP HS (fun w S => (r_mv (F.t 18 rfl))) fun a F => ?_
            refine dq 16 F rfl (by kernel_rfl) NP HS (fun w S => (r_fa (off := 2) (F.t 9 rfl) fa32_2)) fun a F => ?_
            refine dq 17 F rfl (by kernel_rfl) NP HS (fun w S => (r_ld (F.t 109 rfl) (cel_cell (o := 2) (S.cell 1 rfl) rfl) one30)) fun a F => ?_
            obtain ⟨x118, e119, k_105⟩ := Option.bind_eq_some_iff.1 k_105
            try dsimp only at k_105
            refine d1 18 rfl (by kernel_rfl) (call F Try.func19 (ref17_SameRows_ok (H.p7.p3) e119) rfl rfl fun v w hR a F => ?_)
            obtain ⟨rfl, H⟩ := hR
            have HS := H.fx2.fx0
            refine kg _ HS (fun w S => S) ?_
            refine dq 19 F rfl (by kernel_rfl) NP HS (fun w S => (r_pickT (F.t 107 rfl) (F.t 111 rfl))) fun a F => ?_
            refine dq 20 F rfl (by kernel_rfl) NP HS (fun w S => (r_as (F.t 112 rfl))) fun a F => ?_
            refine ddone (by kernel_rfl) ?_
            replace F := F.only [20, 1, 5, 6, 7, 8, 9, 10, 13, 18, 19] (l' := [(20, .bool x118), (1, .slice A1_ a1.length c1_), (5, .bool x1), (6, .pointer (some ⟨g6, 0, none⟩)), (7, .pointer (some ⟨g57, 0, none⟩)), (8, .pointer (some ⟨g13, 0, none⟩)), (9, .pointer (some ⟨g14, 0, none⟩)), (10, .bool x89), (13, .int .i64 x20), (18, .slice A87 x85.length c88), (19, .bool x90)]) rfl
            try dsimp only at k_105
            obtain rfl := Option.some.inj k_105
            exact ⟨_, rfl, F.only [1, 5, 6, 7, 8, 9, 10, 13, 18, 19, 20] rfl, H.px0.f3.f3.f3⟩
           ·rw [if_neg c117] at k_105
            rw [decide_eq_false c117] at F
            refine doff 15 F rfl (by kernel_rfl) NP HS fun a F => ?_
            refine doff 16 F rfl (by kernel_rfl) NP HS fun a F => ?_
            refine doff 17 F rfl (by kernel_rfl) NP HS fun a F => ?_
            refine doff 18 F rfl (by kernel_rfl) NP HS fun a F => ?_
            refine dq 19 F rfl (by kernel_rfl) NP HS (fun w S => (r_pickF (F.t 107 rfl) (F.ev (x := .const (.bool false)) rfl))) fun a F => ?_
            refine dq 20 F rfl (by kernel_rfl) NP HS (fun w S => (r_as (F.t 112 rfl))) fun a F => ?_
            refine ddone (by kernel_rfl) ?_
            replace F := F.only [20, 1, 5, 6, 7, 8, 9, 10, 13, 18, 19] (l' := [(20, .bool false), (1, .slice A1_ a1.length c1_), (5, .bool x1), (6, .pointer (some ⟨g6, 0, none⟩)), (7, .pointer (some ⟨g57, 0, none⟩)), (8, .pointer (some ⟨g13, 0, none⟩)), (9, .pointer (some ⟨g14, 0, none⟩)), (10, .bool x89), (13, .int .i64 x20), (18, .slice A87 x85.length c88), (19, .bool x90)]) rfl
            try dsimp only at k_105
            obtain rfl := Option.some.inj k_105
            exact ⟨_, rfl, F.only [1, 5, 6, 7, 8, 9, 10, 13, 18, 19, 20] rfl, H.px0.f3.f3.f3⟩
          ·rw [if_neg c110] at k_105
           rw [Bool.eq_false_iff.2 c110] at F
           refine doff 6 F rfl (by kernel_rfl) NP HS fun a F => ?_
           refine doff 7 F rfl (by kernel_rfl) NP HS fun a F => ?_
           refine doff 8 F rfl (by kernel_rfl) NP HS fun a F => ?_
           refine doff 9 F rfl (by kernel_rfl) NP HS fun a F => ?_
           refine doff 10 F rfl (by kernel_rfl) NP HS fun a F => ?_
           refine doff 11 F rfl (by kernel_rfl) NP HS fun a F => ?_
           refine doff 12 F rfl (by kernel_rfl) NP HS fun a F => ?_
           refine dq 13 F rfl (by kernel_rfl) NP HS (fun w S => (r_pickF (F.t 98 rfl) (F.ev (x := .const (.bool false)) rfl))) fun a F => ?_
           refine dq 14 F rfl (by kernel_rfl) NP HS (fun w S => (r_mv (F.t 106 rfl))) fun a F => ?_
           refine doff 15 F rfl (by kernel_rfl) NP HS fun a F => ?_
           refine doff 16 F rfl (by kernel_rfl) NP HS fun a F => ?_
           refine doff 17 F rfl (by kernel_rfl) NP HS fun a F => ?_
           refine doff 18 F rfl (by kernel_rfl) NP HS fun a F => ?_
           refine dq 19 F rfl (by kernel_rfl) NP HS (fun w S => (r_pickF (F.t 107 rfl) (F.ev (x := .const (.bool false)) rfl))) fun a F => ?_
           refine dq 20 F rfl (by kernel_rfl) NP HS (fun w S => (r_as (F.t 112 rfl))) fun a F => ?_
           refine ddone (by kernel_rfl) ?_
           replace F := F.only [20, 1, 5, 6, 7, 8, 9, 10, 13, 18, 19] (l' := [(20, .bool false), (1, .slice A1_ a1.length c1_), (5, .bool x1), (6, .pointer (some ⟨g6, 0, none⟩)), (7, .pointer (some ⟨g57, 0, none⟩)), (8, .pointer (some ⟨g13, 0, none⟩)), (9, .pointer (some ⟨g14, 0, none⟩)), (10, .bool x89), (13, .int .i64 x20), (18, .slice A87 x85.length c88), (19, .bool x90)]) rfl
           try dsimp only at k_105
           obtain rfl := Option.some.inj k_105
           exact ⟨_, rfl, F.only [1, 5, 6, 7, 8, 9, 10, 13, 18, 19, 20] rfl, H.f3.f3.f3⟩
         ·rw [if_neg c107] at k_105
          rw [Bool.eq_false_iff.2 c107] at F
          refine doff 2 F rfl (by kernel_rfl) NP HS fun a F => ?_
          refine doff 3 F rfl (by kernel_rfl) NP HS fun a F => ?_
          refine dq 4 F rfl (by kernel_rfl) NP HS (fun w S => (r_pickF (F.t 94 rfl) (F.ev (x := .const (.bool false)) rfl))) fun a F => ?_
          refine dq 5 F rfl (by kernel_rfl) NP HS (fun w S => (r_mv (F.t 97 rfl))) fun a F => ?_
          refine doff 6 F rfl (by kernel_rfl) NP HS fun a F => ?_
          refine doff 7 F rfl (by kernel_rfl) NP HS fun a F => ?_
          refine doff 8 F rfl (by kernel_rfl) NP HS fun a F => ?_
          refine doff 9 F rfl (by kernel_rfl) NP HS fun a F => ?_
          refine doff 10 F rfl (by kernel_rfl) NP HS fun a F => ?_
          refine doff 11 F rfl (by kernel_rfl) NP HS fun a F => ?_
          refine doff 12 F rfl (by kernel_rfl) NP HS fun a F => ?_
          refine dq 13 F rfl (by kernel_rfl) NP HS (fun w S => (r_pickF (F.t 98 rfl) (F.ev (x := .const (.bool false)) rfl))) fun a F => ?_
          refine dq 14 F rfl (by kernel_rfl) NP HS (fun w S => (r_mv (F.t 106 rfl))) fun a F => ?_
          refine doff 15 F rfl (by kernel_rfl) NP HS fun a F => ?_
          refine doff 16 F rfl (by kernel_rfl) NP HS fun a F => ?_
          refine doff 17 F rfl (by kernel_rfl) NP HS fun a F => ?_
          refine doff 18 F rfl (by kernel_rfl) NP HS fun a F => ?_
          refine dq 19 F rfl (by kernel_rfl) NP HS (fun w S => (r_pickF (F.t 107 rfl) (F.ev (x := .const (.bool false)) rfl))) fun a F => ?_
          refine dq 20 F rfl (by kernel_rfl) NP HS (fun w S => (r_as (F.t 112 rfl))) fun a F => ?_
          refine ddone (by kernel_rfl) ?_
          replace F := F.only [20, 1, 5, 6, 7, 8, 9, 10, 13, 18, 19] (l' := [(20, .bool false), (1, .slice A1_ a1.length c1_), (5, .bool x1), (6, .pointer (some ⟨g6, 0, none⟩)), (7, .pointer (some ⟨g57, 0, none⟩)), (8, .pointer (some ⟨g13, 0, none⟩)), (9, .pointer (some ⟨g14, 0, none⟩)), (10, .bool x89), (13, .int .i64 x20), (18, .slice A87 x85.length c88), (19, .bool x90)]) rfl
          try dsimp only at k_105
          obtain rfl := Option.some.inj k_105
          exact ⟨_, rfl, F.only [1, 5, 6, 7, 8, 9, 10, 13, 18, 19, 20] rfl, H⟩
        ·rintro a w ⟨x105, rfl, F, H⟩
         try dsimp only at k_82 F H
         refine wp_seq ?_
         refine wp_seq ?_
         obtain ⟨o_120, k_120, k_82⟩ := Option.bind_eq_some_iff.1 k_82
         refine cut (fun a w => ∃ (x120 : Bool), x120 = o_120 ∧ Fr 215 [] [(1, .slice A1_ a1.length c1_), (5, .bool x1), (6, .pointer (some ⟨g6, 0, none⟩)), (7, .pointer (some ⟨g57, 0, none⟩)), (8, .pointer (some ⟨g13, 0, none⟩)), (9, .pointer (some ⟨g14, 0, none⟩)), (13, .int .i64 x20), (18, .slice A87 x85.length c88), (125, .bool x120)] a ∧ Hp w0 (rd k_law18_Op A1_ c1_ a1 :: rd (kSlice kByte) A87 c88 x85 :: rd kByte A22 c23 x21 :: rd (kSlice kByte) A25 c26 x24 :: rd (kSlice kByte) A28 c29 x27 :: rd kByte A32 c33 x31 :: rd (kSlice kByte) A35 c36 x34 :: ps) (cel g13 [.int .i64 0, .slice A22 x21.length c23, .slice A25 x24.length c26, .slice A28 x27.length c29] 32 :: obj_disk_Disk g6 x55 :: cel g14 [.int .i64 0, .slice A32 x31.length c33, .slice A35 x34.length c36, .slice none 0 0] 32 :: obj_store_Store g57 g6 x53 :: fs) w) ?_ ?_
         ·skip
          refine wp_region_lit ?_
          refine mv F rfl fun a F => ?_
          refine qw F (r_not (F.t 113 rfl)) fun a F => ?_
          refine mv F rfl fun a F => ?_
          by_cases c122 : x90 = true
          ·rw [if_pos c122] at k_120
           rw [c122] at F
           refine of_ F fun a F => ?_
           refine of_ F fun a F => ?_
           refine qw F (r_pickF (F.t 115 rfl) (F.ev (x := .const (.bool false)) rfl)) fun a F => ?_
           refine mv F rfl fun a F => ?_
           refine of_ F fun a F => ?_
           refine of_ F fun a F => ?_
           refine of_ F fun a F => ?_
           refine of_ F fun a F => ?_
           refine of_ F fun a F => ?_
           refine qw F (r_pickF (F.t 119 rfl) (F.ev (x := .const (.bool false)) rfl)) fun a F => ?_
           refine wpList_nil ?_
           replace F := F.only [125, 1, 5, 6, 7, 8, 9, 13, 18] (l' := [(125, .bool false), (1, .slice A1_ a1.length c1_), (5, .bool x1), (6, .pointer (some ⟨g6, 0, none⟩)), (7, .pointer (some ⟨g57, 0, none⟩)), (8, .pointer (some ⟨g13, 0, none⟩)), (9, .pointer (some ⟨g14, 0, none⟩)), (13, .int .i64 x20), (18, .slice A87 x85.length c88)]) rfl
           try dsimp only at k_120
           obtain rfl := Option.some.inj k_120
           exact ⟨_, rfl, F.only [1, 5, 6, 7, 8, 9, 13, 18, 125] rfl, H⟩
          ·rw [if_neg c122] at k_120
           rw [Bool.eq_false_iff.2 c122] at F
           refine mv F rfl fun a F => ?_
           refine qw F (r_not (F.t 116 rfl)) fun a F => ?_
           refine qw F (r_pickT (F.t 115 rfl) (F.t 117 rfl)) fun a F => ?_
           refine mv F rfl fun a F => ?_
           by_cases c123 : x105 = true
           ·rw [if_pos c123] at k_120
            rw [c123] at F
            refine of_ F fun a F => ?_
            refine of_ F fun a F => ?_
            refine of_ F fun a F => ?_
            refine of_ F fun a F => ?_
            refine of_ F fun a F => ?_
            refine qw F (r_pickF (F.t 119 rfl) (F.ev (x := .const (.bool false)) rfl)) fun a F => ?_
            refine wpList_nil ?_
            replace F := F.only [125, 1, 5, 6, 7, 8, 9, 13, 18] (l' := [(125, .bool false), (1, .slice A1_ a1.length c1_), (5, .bool x1), (6, .pointer (some ⟨g6, 0, none⟩)), (7, .pointer (some ⟨g57, 0, none⟩)), (8, .pointer (some ⟨g13, 0, none⟩)), (9, .pointer (some ⟨g14, 0, none⟩)), (13, .int .i64 x20), (18, .slice A87 x85.length c88)]) rfl
            try dsimp only at k_120
            obtain rfl := Option.some.inj k_120
            exact ⟨_, rfl, F.only [1, 5, 6, 7, 8, 9, 13, 18, 125] rfl, H⟩
           ·rw [if_neg c123] at k_120
            rw [Bool.eq_false_iff.2 c123] at F
            refine mv F rfl fun a F => ?_
            refine mv F rfl fun a F => ?_
            by_cases c124 : x89 = true
            ·rw [if_pos c124] at k_120
             rw [c124] at F
             refine of_ F fun a F => ?_
             refine of_ F fun a F => ?_
             refine qw F (r_pickT (F.t 121 rfl) (F.ev (x := .const (.bool true)) rfl)) fun a F => ?_
             refine qw F (r_pickT (F.t 119 rfl) (F.t 124 rfl)) fun a F => ?_
             refine wpList_nil ?_
             replace F := F.only [125, 1, 5, 6, 7, 8, 9, 13, 18] (l' := [(125, .bool true), (1, .slice A1_ a1.length c1_), (5, .bool x1), (6, .pointer (some ⟨g6, 0, none⟩)), (7, .pointer (some ⟨g57, 0, none⟩)), (8, .pointer (some ⟨g13, 0, none⟩)), (9, .pointer (some ⟨g14, 0, none⟩)), (13, .int .i64 x20), (18, .slice A87 x85.length c88)]) rfl
             try dsimp only at k_120
             obtain rfl := Option.some.inj k_120
             exact ⟨_, rfl, F.only [1, 5, 6, 7, 8, 9, 13, 18, 125] rfl, H⟩
            ·rw [if_neg c124] at k_120
             rw [Bool.eq_false_iff.2 c124] at F
             refine mv F rfl fun a F => ?_
             obtain ⟨x125, e126, k_120⟩ := Option.bind_eq_some_iff.1 k_120
             try dsimp only at k_120
             refine ls (call F Try.func16 (store_Store_Has_ok (H.f2.f2.f2.f3) e126) rfl rfl fun v w hR a F => ?_)
             obtain ⟨rfl, H⟩ := hR
             refine qw F (r_pickF (F.t 121 rfl) (F.t 123 rfl)) fun a F => ?_
             refine qw F (r_pickT (F.t 119 rfl) (F.t 124 rfl)) fun a F => ?_
             refine wpList_nil ?_
             replace F := F.only [125, 1, 5, 6, 7, 8, 9, 13, 18] (l' := [(125, .bool x125), (1, .slice A1_ a1.length c1_), (5, .bool x1), (6, .pointer (some ⟨g6, 0, none⟩)), (7, .pointer (some ⟨g57, 0, none⟩)), (8, .pointer (some ⟨g13, 0, none⟩)), (9, .pointer (some ⟨g14, 0, none⟩)), (13, .int .i64 x20), (18, .slice A87 x85.length c88)]) rfl
             try dsimp only at k_120
             obtain rfl := Option.some.inj k_120
             exact ⟨_, rfl, F.only [1, 5, 6, 7, 8, 9, 13, 18, 125] rfl, H.f3.f3.f3⟩
         ·rintro a w ⟨x120, rfl, F, H⟩
          try dsimp only at k_82 F H
          by_cases c127 : x120 = true
          ·rw [if_pos c127] at k_82
           rw [c127] at F
           refine wp_cond_true (F.ev rfl) ?_
           refine rg ?_
           refine as_ F (v := .bool false) rfl fun a F => ?_
           refine rgend ?_
           replace F := F.only [4] (l' := [(4, .bool false)]) rfl
           refine wp_ret ?_
           try dsimp only at k_82
           obtain rfl := Option.some.inj k_82
           try dsimp only at j_37
           obtain rfl := Option.some.inj j_37
           obtain rfl := u_37 _ rfl
           try dsimp only at h
           obtain rfl := Option.some.inj h
           exact RET _ _ (ret1 F rfl rfl ⟨_, rfl, rfl, H.px6.px5.px4.px3.px2.px1.px0.fx3.fx2.fx1.fx0⟩)
          ·rw [if_neg c127] at k_82
           rw [Bool.eq_false_iff.2 c127] at F
           refine wp_cond_false (F.ev rfl) ?_
           refine wp_skip ?_
           refine rg ?_
           refine mv F rfl fun a F => ?_
           obtain ⟨x128, e129, k_82⟩ := Option.bind_eq_some_iff.1 k_82
           try dsimp only at k_82
           refine ls (call F Try.func16 (store_Store_Has_ok (H.f2.f2.f2.f3) e129) rfl rfl fun v w hR a F => ?_)
           obtain ⟨rfl, H⟩ := hR
           refine as_ F rfl fun a F => ?_
           refine rgend ?_
           refine rg ?_
           refine as_ F (v := .bool false) rfl fun a F => ?_
           refine rgend ?_
           refine rg ?_
           refine mv F rfl fun a F => ?_
           obtain ⟨x130, e131, k_82⟩ := Option.bind_eq_some_iff.1 k_82
           try dsimp only at k_82
           refine ls (call F Try.func17 (store_Store_State_ok (H) e131) rfl rfl fun v w hR a F => ?_)
           obtain ⟨A132, c133, rfl, H⟩ := hR
           refine mv F rfl fun a F => ?_
           refine ls (lbd F (vs := [(1, .slice A132 x130.length c133), (2, .slice A87 x85.length c88)]) (cs := [.int .i64 0, .slice A132 x130.length c133, .slice A87 x85.length c88, .slice none 0 0]) rfl (fun w => by kernel_rfl) fun a F => ?_)
           obtain ⟨_, hr, H⟩ := Hp.store (t := 32) (o := 0) (n := 4) (vs := [.int .i64 0, .slice A132 x130.length c133, .slice A87 x85.length c88, .slice none 0 0]) (cs' := [.int .i64 0, .slice A132 x130.length c133, .slice A87 x85.length c88, .slice none 0 0]) (H.f4.f4.f3.f3.f4) (F.t 8 rfl) (F.t 131 rfl) rfl sz32 rfl (Nat.le_of_ble_eq_true rfl) rfl rfl
           refine ls (qn F (.inl rfl) (hr _ _ _ _) fun a F => ?_)
           refine rgend ?_
           replace F := F.only [11, 10, 1, 5, 6, 7, 8, 9, 13, 18] (l' := [(11, .bool false), (10, .bool x128), (1, .slice A1_ a1.length c1_), (5, .bool x1), (6, .pointer (some ⟨g6, 0, none⟩)), (7, .pointer (some ⟨g57, 0, none⟩)), (8, .pointer (some ⟨g13, 0, none⟩)), (9, .pointer (some ⟨g14, 0, none⟩)), (13, .int .i64 x20), (18, .slice A87 x85.length c88)]) rfl
           refine wp_region_lit ?_
           refine mv F rfl fun a F => ?_
           refine qw F (r_len (F.t 132 rfl) Try.underlying30) fun a F => ?_
           refine as_ F rfl fun a F => ?_
           refine wpList_nil ?_
           replace H := (H.f4.f4.f4.f3.f4).freeze
           replace H := H.nilRd (kSlice kByte)
           try dsimp only at k_82
           obtain rfl := Option.some.inj k_82
           exact ⟨_, _, _, _, _, _, _, _, rfl, A132, c133, A87, c88, none, 0, A32, c33, A35, c36, F.only [1, 5, 6, 7, 8, 9, 10, 11, 12, 13] rfl, H.p2.p9.p9.p3.p7.p6.px6.px6.px6.px6.px6.px6.px6.px6.px6.f1.f3.f3.f3⟩
      ·rw [if_neg c84] at k_82
       rw [decide_eq_false c84] at F
       refine wp_cond_false (F.ev rfl) ?_
       refine wp_seq ?_
       obtain ⟨o_134, k_134, k_82⟩ := Option.bind_eq_some_iff.1 k_82
       refine cut (fun a w => ∃ (x134 : Bool), x134 = o_134 ∧ Fr 215 [] [(1, .slice A1_ a1.length c1_), (5, .bool x1), (6, .pointer (some ⟨g6, 0, none⟩)), (7, .pointer (some ⟨g57, 0, none⟩)), (8, .pointer (some ⟨g13, 0, none⟩)), (9, .pointer (some ⟨g14, 0, none⟩)), (10, .bool x17), (11, .bool x18), (12, .int .i64 x19), (13, .int .i64 x20), (14, .pointer (some ⟨g52, 0, none⟩)), (16, .int .i64 x54), (134, .bool x134)] a ∧ Hp w0 (rd k_law18_Op A1_ c1_ a1 :: rd kByte A44 c45 ((a1.getD (x20 : Int).toNat (⟨0, [], [], [], 0, []⟩ : law18_Op)).State) :: rd (kSlice kByte) A46 c47 ((a1.getD (x20 : Int).toNat (⟨0, [], [], [], 0, []⟩ : law18_Op)).Kept) :: rd kByte A48 c49 ((a1.getD (x20 : Int).toNat (⟨0, [], [], [], 0, []⟩ : law18_Op)).Entry) :: rd kBool A50 c51 ((a1.getD (x20 : Int).toNat (⟨0, [], [], [], 0, []⟩ : law18_Op)).Keep) :: rd kByte A22 c23 x21 :: rd (kSlice kByte) A25 c26 x24 :: rd (kSlice kByte) A28 c29 x27 :: rd kByte A32 c33 x31 :: rd (kSlice kByte) A35 c36 x34 :: ps) (cel g52 [.int .i64 ((a1.getD (x20 : Int).toNat (⟨0, [], [], [], 0, []⟩ : law18_Op)).What), .slice A44 ((a1.getD (x20 : Int).toNat (⟨0, [], [], [], 0, []⟩ : law18_Op)).State).length c45, .slice A46 ((a1.getD (x20 : Int).toNat (⟨0, [], [], [], 0, []⟩ : law18_Op)).Kept).length c47, .slice A48 ((a1.getD (x20 : Int).toNat (⟨0, [], [], [], 0, []⟩ : law18_Op)).Entry).length c49, .int .i64 ((a1.getD (x20 : Int).toNat (⟨0, [], [], [], 0, []⟩ : law18_Op)).N), .slice A50 ((a1.getD (x20 : Int).toNat (⟨0, [], [], [], 0, []⟩ : law18_Op)).Keep).length c51] 35 :: cel g13 [.int .i64 0, .slice A22 x21.length c23, .slice A25 x24.length c26, .slice A28 x27.length c29] 32 :: obj_disk_Disk g6 x55 :: cel g14 [.int .i64 0, .slice A32 x31.length c33, .slice A35 x34.length c36, .slice none 0 0] 32 :: obj_store_Store g57 g6 x53 :: fs) w) ?_ ?_
       ·skip
        refine wp_region_lit ?_
        refine qw F (r_fa (off := 0) (F.t 14 rfl) fa35_0) fun a F => ?_
        refine qw F (r_ld (F.t 135 rfl) (cel_cell (o := 0) (H.cell 3 rfl) rfl) one3) fun a F => ?_
        refine qw F (r_lt (F.t 136 rfl) (F.ev (x := .const (.int .i64 2)) rfl)) fun a F => ?_
        refine mv F rfl fun a F => ?_
        by_cases c136 : ((a1.getD (x20 : Int).toNat (⟨0, [], [], [], 0, []⟩ : law18_Op)).What) < 2
        ·rw [if_pos c136] at k_134
         rw [decide_eq_true c136] at F
         refine of_ F fun a F => ?_
         refine of_ F fun a F => ?_
         refine of_ F fun a F => ?_
         refine qw F (r_pickT (F.t 138 rfl) (F.ev (x := .const (.bool true)) rfl)) fun a F => ?_
         refine mv F rfl fun a F => ?_
         refine mv F rfl fun a F => ?_
         refine qw F (r_eq (F.t 144 rfl) (F.ev (x := .const (.int .i64 0)) rfl)) fun a F => ?_
         refine qw F (r_pickT (F.t 143 rfl) (F.t 145 rfl)) fun a F => ?_
         refine as_ F rfl fun a F => ?_
         refine wpList_nil ?_
         replace F := F.only [134, 7, 16, 14, 1, 5, 6, 8, 9, 10, 11, 12, 13] (l' := [(134, .bool (decide (x54 = 0))), (7, .pointer (some ⟨g57, 0, none⟩)), (16, .int .i64 x54), (14, .pointer (some ⟨g52, 0, none⟩)), (1, .slice A1_ a1.length c1_), (5, .bool x1), (6, .pointer (some ⟨g6, 0, none⟩)), (8, .pointer (some ⟨g13, 0, none⟩)), (9, .pointer (some ⟨g14, 0, none⟩)), (10, .bool x17), (11, .bool x18), (12, .int .i64 x19), (13, .int .i64 x20)]) rfl
         try dsimp only at k_134
         obtain rfl := Option.some.inj k_134
         exact ⟨_, rfl, F.only [1, 5, 6, 7, 8, 9, 10, 11, 12, 13, 14, 16, 134] rfl, H.p10.p10.p10.p10.p10.p8.p8.p8.p8.p20.px10.px10.px10.px10.px10.px10.px10.px10.px10.px10.px10.px10.f1.f5.f3.f5.f5.fx5⟩
        ·rw [if_neg c136] at k_134
         rw [decide_eq_false c136] at F
         refine qw F (r_fa (off := 0) (F.t 14 rfl) fa35_0) fun a F => ?_
         refine qw F (r_ld (F.t 139 rfl) (cel_cell (o := 0) (H.cell 3 rfl) rfl) one3) fun a F => ?_
         refine qw F (r_gt (F.t 140 rfl) (F.ev (x := .const (.int .i64 7)) rfl)) fun a F => ?_
         refine qw F (r_pickF (F.t 138 rfl) (F.t 141 rfl)) fun a F => ?_
         refine mv F rfl fun a F => ?_
         by_cases c137 : ((a1.getD (x20 : Int).toNat (⟨0, [], [], [], 0, []⟩ : law18_Op)).What) > 7
         ·rw [if_pos c137] at k_134
          rw [decide_eq_true c137] at F
          refine mv F rfl fun a F => ?_
          refine qw F (r_eq (F.t 144 rfl) (F.ev (x := .const (.int .i64 0)) rfl)) fun a F => ?_
          refine qw F (r_pickT (F.t 143 rfl) (F.t 145 rfl)) fun a F => ?_
          refine as_ F rfl fun a F => ?_
          refine wpList_nil ?_
          replace F := F.only [134, 7, 16, 14, 1, 5, 6, 8, 9, 10, 11, 12, 13] (l' := [(134, .bool (decide (x54 = 0))), (7, .pointer (some ⟨g57, 0, none⟩)), (16, .int .i64 x54), (14, .pointer (some ⟨g52, 0, none⟩)), (1, .slice A1_ a1.length c1_), (5, .bool x1), (6, .pointer (some ⟨g6, 0, none⟩)), (8, .pointer (some ⟨g13, 0, none⟩)), (9, .pointer (some ⟨g14, 0, none⟩)), (10, .bool x17), (11, .bool x18), (12, .int .i64 x19), (13, .int .i64 x20)]) rfl
          try dsimp only at k_134
          obtain rfl := Option.some.inj k_134
          exact ⟨_, rfl, F.only [1, 5, 6, 7, 8, 9, 10, 11, 12, 13, 14, 16, 134] rfl, H.p10.p10.p10.p10.p10.p8.p8.p8.p8.p20.px10.px10.px10.px10.px10.px10.px10.px10.px10.px10.px10.px10.f1.f5.f3.f5.f5.fx5⟩
         ·rw [if_neg c137] at k_134
          rw [decide_eq_false c137] at F
          refine of_ F fun a F => ?_
          refine of_ F fun a F => ?_
          refine qw F (r_pickF (F.t 143 rfl) (F.ev (x := .const (.bool false)) rfl)) fun a F => ?_
          refine as_ F rfl fun a F => ?_
          refine wpList_nil ?_
          replace F := F.only [134, 7, 16, 14, 1, 5, 6, 8, 9, 10, 11, 12, 13] (l' := [(134, .bool false), (7, .pointer (some ⟨g57, 0, none⟩)), (16, .int .i64 x54), (14, .pointer (some ⟨g52, 0, none⟩)), (1, .slice A1_ a1.length c1_), (5, .bool x1), (6, .pointer (some ⟨g6, 0, none⟩)), (8, .pointer (some ⟨g13, 0, none⟩)), (9, .pointer (some ⟨g14, 0, none⟩)), (10, .bool x17), (11, .bool x18), (12, .int .i64 x19), (13, .int .i64 x20)]) rfl
          try dsimp only at k_134
          obtain rfl := Option.some.inj k_134
          exact ⟨_, rfl, F.only [1, 5, 6, 7, 8, 9, 10, 11, 12, 13, 14, 16, 134] rfl, H.p10.p10.p10.p10.p10.p8.p8.p8.p8.p20.px10.px10.px10.px10.px10.px10.px10.px10.px10.px10.px10.px10.f1.f5.f3.f5.f5.fx5⟩
       ·rintro a w ⟨x134, rfl, F, H⟩
        try dsimp only at k_82 F H
        obtain ⟨o_155, k_155, k_82⟩ := Option.bind_eq_some_iff.1 k_82
        refine cut (fun a w => ∃ (x138 : Bool) (x139 : Bool) (x140 : Int) (x141 : List Int) (x144 : List (List Int)) (x147 : List (List Int)) (x150 : List Int) (x153 : List (List Int)), (x138, x139, x140, x141, x144, x147, x150, x153) = o_155 ∧ ∃ (A142 : Option Addr) (c143 : Nat) (A145 : Option Addr) (c146 : Nat) (A148 : Option Addr) (c149 : Nat) (A151 : Option Addr) (c152 : Nat) (A154 : Option Addr) (c155 : Nat), Fr 215 [] [(1, .slice A1_ a1.length c1_), (5, .bool x1), (6, .pointer (some ⟨g6, 0, none⟩)), (7, .pointer (some ⟨g57, 0, none⟩)), (8, .pointer (some ⟨g13, 0, none⟩)), (9, .pointer (some ⟨g14, 0, none⟩)), (10, .bool x138), (11, .bool x139), (12, .int .i64 x140), (13, .int .i64 x20)] a ∧ Hp w0 (rd kByte A142 c143 x141 :: rd (kSlice kByte) A145 c146 x144 :: rd (kSlice kByte) A148 c149 x147 :: rd kByte A151 c152 x150 :: rd (kSlice kByte) A154 c155 x153 :: rd k_law18_Op A1_ c1_ a1 :: ps) (cel g13 [.int .i64 0, .slice A142 x141.length c143, .slice A145 x144.length c146, .slice A148 x147.length c149] 32 :: obj_disk_Disk g6 x55 :: cel g14 [.int .i64 0, .slice A151 x150.length c152, .slice A154 x153.length c155, .slice none 0 0] 32 :: obj_store_Store g57 g6 x53 :: fs) w) ?_ ?_
        ·skip
         by_cases c157 : x134 = true
         ·rw [if_pos c157] at k_155
          rw [c157] at F
          refine wp_cond_true (F.ev rfl) ?_
          refine rg ?_
          refine qw F (r_fa (off := 1) (F.t 14 rfl) fa35_1) fun a F => ?_
          refine qw F (r_ld (F.t 147 rfl) (cel_cell (o := 1) (H.cell 0 rfl) rfl) one29) fun a F => ?_
          refine qw F (r_fa (off := 2) (F.t 14 rfl) fa35_2) fun a F => ?_
          refine qw F (r_ld (F.t 149 rfl) (cel_cell (o := 2) (H.cell 0 rfl) rfl) one30) fun a F => ?_
          refine ls (lbd F (vs := [(1, .slice A44 ((a1.getD (x20 : Int).toNat (⟨0, [], [], [], 0, []⟩ : law18_Op)).State).length c45), (2, .slice A46 ((a1.getD (x20 : Int).toNat (⟨0, [], [], [], 0, []⟩ : law18_Op)).Kept).length c47)]) (cs := [.int .i64 0, .slice A44 ((a1.getD (x20 : Int).toNat (⟨0, [], [], [], 0, []⟩ : law18_Op)).State).length c45, .slice A46 ((a1.getD (x20 : Int).toNat (⟨0, [], [], [], 0, []⟩ : law18_Op)).Kept).length c47, .slice none 0 0]) rfl (fun w => by kernel_rfl) fun a F => ?_)
          obtain ⟨_, hr, H⟩ := Hp.store (t := 32) (o := 0) (n := 4) (vs := [.int .i64 0, .slice A44 ((a1.getD (x20 : Int).toNat (⟨0, [], [], [], 0, []⟩ : law18_Op)).State).length c45, .slice A46 ((a1.getD (x20 : Int).toNat (⟨0, [], [], [], 0, []⟩ : law18_Op)).Kept).length c47, .slice none 0 0]) (cs' := [.int .i64 0, .slice A44 ((a1.getD (x20 : Int).toNat (⟨0, [], [], [], 0, []⟩ : law18_Op)).State).length c45, .slice A46 ((a1.getD (x20 : Int).toNat (⟨0, [], [], [], 0, []⟩ : law18_Op)).Kept).length c47, .slice none 0 0]) (H.f4.f4.f4.f3.f4) (F.t 8 rfl) (F.t 151 rfl) rfl sz32 rfl (Nat.le_of_ble_eq_true rfl) rfl rfl
          refine ls (qn F (.inl rfl) (hr _ _ _ _) fun a F => ?_)
          refine rgend ?_
          replace F := F.only [1, 5, 6, 7, 8, 9, 11, 13, 14] (l' := [(1, .slice A1_ a1.length c1_), (5, .bool x1), (6, .pointer (some ⟨g6, 0, none⟩)), (7, .pointer (some ⟨g57, 0, none⟩)), (8, .pointer (some ⟨g13, 0, none⟩)), (9, .pointer (some ⟨g14, 0, none⟩)), (11, .bool x18), (13, .int .i64 x20), (14, .pointer (some ⟨g52, 0, none⟩))]) rfl
          refine rg ?_
          refine as_ F (v := .bool true) rfl fun a F => ?_
          refine rgend ?_
          refine wp_region_lit ?_
          refine qw F (r_fa (off := 2) (F.t 14 rfl) fa35_2) fun a F => ?_
          refine qw F (r_ld (F.t 152 rfl) (cel_cell (o := 2) (H.cell 1 rfl) rfl) one30) fun a F => ?_
          refine qw F (r_len (F.t 153 rfl) Try.underlying30) fun a F => ?_
          refine as_ F rfl fun a F => ?_
          refine wpList_nil ?_
          replace F := F.only [12, 10, 1, 5, 6, 7, 8, 9, 11, 13] (l' := [(12, .int .i64 ((((a1.getD (x20 : Int).toNat (⟨0, [], [], [], 0, []⟩ : law18_Op)).Kept).length : Int))), (10, .bool true), (1, .slice A1_ a1.length c1_), (5, .bool x1), (6, .pointer (some ⟨g6, 0, none⟩)), (7, .pointer (some ⟨g57, 0, none⟩)), (8, .pointer (some ⟨g13, 0, none⟩)), (9, .pointer (some ⟨g14, 0, none⟩)), (11, .bool x18), (13, .int .i64 x20)]) rfl
          replace H := H.nilRd (kSlice kByte)
          try dsimp only at k_155
          obtain rfl := Option.some.inj k_155
          exact ⟨_, _, _, _, _, _, _, _, rfl, A44, c45, A46, c47, none, 0, A32, c33, A35, c36, F.only [1, 5, 6, 7, 8, 9, 10, 11, 12, 13] rfl, H.p1.p11.p11.p3.p7.p7.px6.px6.px6.px6.px6.px6.px6.px6.px6.px6.px6.fx1⟩
         ·rw [if_neg c157] at k_155
          rw [Bool.eq_false_iff.2 c157] at F
          refine wp_cond_false (F.ev rfl) ?_
          refine wp_seq ?_
          obtain ⟨o_158, k_158, k_155⟩ := Option.bind_eq_some_iff.1 k_155
          refine cut (fun a w => ∃ (x158 : Bool), x158 = o_158 ∧ Fr 215 [] [(1, .slice A1_ a1.length c1_), (5, .bool x1), (6, .pointer (some ⟨g6, 0, none⟩)), (7, .pointer (some ⟨g57, 0, none⟩)), (8, .pointer (some ⟨g13, 0, none⟩)), (9, .pointer (some ⟨g14, 0, none⟩)), (10, .bool x17), (11, .bool x18), (12, .int .i64 x19), (13, .int .i64 x20), (14, .pointer (some ⟨g52, 0, none⟩)), (16, .int .i64 x54), (155, .bool x158)] a ∧ Hp w0 (rd k_law18_Op A1_ c1_ a1 :: rd kByte A44 c45 ((a1.getD (x20 : Int).toNat (⟨0, [], [], [], 0, []⟩ : law18_Op)).State) :: rd (kSlice kByte) A46 c47 ((a1.getD (x20 : Int).toNat (⟨0, [], [], [], 0, []⟩ : law18_Op)).Kept) :: rd kByte A48 c49 ((a1.getD (x20 : Int).toNat (⟨0, [], [], [], 0, []⟩ : law18_Op)).Entry) :: rd kBool A50 c51 ((a1.getD (x20 : Int).toNat (⟨0, [], [], [], 0, []⟩ : law18_Op)).Keep) :: rd kByte A22 c23 x21 :: rd (kSlice kByte) A25 c26 x24 :: rd (kSlice kByte) A28 c29 x27 :: rd kByte A32 c33 x31 :: rd (kSlice kByte) A35 c36 x34 :: ps) (cel g52 [.int .i64 ((a1.getD (x20 : Int).toNat (⟨0, [], [], [], 0, []⟩ : law18_Op)).What), .slice A44 ((a1.getD (x20 : Int).toNat (⟨0, [], [], [], 0, []⟩ : law18_Op)).State).length c45, .slice A46 ((a1.getD (x20 : Int).toNat (⟨0, [], [], [], 0, []⟩ : law18_Op)).Kept).length c47, .slice A48 ((a1.getD (x20 : Int).toNat (⟨0, [], [], [], 0, []⟩ : law18_Op)).Entry).length c49, .int .i64 ((a1.getD (x20 : Int).toNat (⟨0, [], [], [], 0, []⟩ : law18_Op)).N), .slice A50 ((a1.getD (x20 : Int).toNat (⟨0, [], [], [], 0, []⟩ : law18_Op)).Keep).length c51] 35 :: cel g13 [.int .i64 0, .slice A22 x21.length c23, .slice A25 x24.length c26, .slice A28 x27.length c29] 32 :: obj_disk_Disk g6 x55 :: cel g14 [.int .i64 0, .slice A32 x31.length c33, .slice A35 x34.length c36, .slice none 0 0] 32 :: obj_store_Store g57 g6 x53 :: fs) w) ?_ ?_
          ·skip
           refine wp_region_lit ?_
           refine qw F (r_fa (off := 0) (F.t 14 rfl) fa35_0) fun a F => ?_
           refine qw F (r_ld (F.t 156 rfl) (cel_cell (o := 0) (H.cell 0 rfl) rfl) one3) fun a F => ?_
           refine qw F (r_lt (F.t 157 rfl) (F.ev (x := .const (.int .i64 2)) rfl)) fun a F => ?_
           refine mv F rfl fun a F => ?_
           by_cases c160 : ((a1.getD (x20 : Int).toNat (⟨0, [], [], [], 0, []⟩ : law18_Op)).What) < 2
           ·rw [if_pos c160] at k_158
            rw [decide_eq_true c160] at F
            refine of_ F fun a F => ?_
            refine of_ F fun a F => ?_
            refine of_ F fun a F => ?_
            refine qw F (r_pickT (F.t 159 rfl) (F.ev (x := .const (.bool true)) rfl)) fun a F => ?_
            refine mv F rfl fun a F => ?_
            refine mv F rfl fun a F => ?_
            refine qw F (r_ne (F.t 165 rfl) (F.ev (x := .const (.int .i64 1)) rfl)) fun a F => ?_
            refine qw F (r_pickT (F.t 164 rfl) (F.t 166 rfl)) fun a F => ?_
            refine mv F rfl fun a F => ?_
            by_cases c161 : x54 ≠ 1
            ·rw [if_pos c161] at k_158
             rw [decide_eq_true c161] at F
             refine mv F rfl fun a F => ?_
             refine qw F (r_ne (F.t 169 rfl) (F.ev (x := .const (.int .i64 43)) rfl)) fun a F => ?_
             refine qw F (r_pickT (F.t 168 rfl) (F.t 170 rfl)) fun a F => ?_
             refine as_ F rfl fun a F => ?_
             refine wpList_nil ?_
             replace F := F.only [155, 1, 5, 6, 7, 8, 9, 10, 11, 12, 13, 14, 16] (l' := [(155, .bool (decide (x54 ≠ 43))), (1, .slice A1_ a1.length c1_), (5, .bool x1), (6, .pointer (some ⟨g6, 0, none⟩)), (7, .pointer (some ⟨g57, 0, none⟩)), (8, .pointer (some ⟨g13, 0, none⟩)), (9, .pointer (some ⟨g14, 0, none⟩)), (10, .bool x17), (11, .bool x18), (12, .int .i64 x19), (13, .int .i64 x20), (14, .pointer (some ⟨g52, 0, none⟩)), (16, .int .i64 x54)]) rfl
             try dsimp only at k_158
             obtain rfl := Option.some.inj k_158
             exact ⟨_, rfl, F.only [1, 5, 6, 7, 8, 9, 10, 11, 12, 13, 14, 16, 155] rfl, H⟩
            ·rw [if_neg c161] at k_158
             rw [decide_eq_false c161] at F
             refine of_ F fun a F => ?_
             refine of_ F fun a F => ?_
             refine qw F (r_pickF (F.t 168 rfl) (F.ev (x := .const (.bool false)) rfl)) fun a F => ?_
             refine as_ F rfl fun a F => ?_
             refine wpList_nil ?_
             replace F := F.only [155, 1, 5, 6, 7, 8, 9, 10, 11, 12, 13, 14, 16] (l' := [(155, .bool false), (1, .slice A1_ a1.length c1_), (5, .bool x1), (6, .pointer (some ⟨g6, 0, none⟩)), (7, .pointer (some ⟨g57, 0, none⟩)), (8, .pointer (some ⟨g13, 0, none⟩)), (9, .pointer (some ⟨g14, 0, none⟩)), (10, .bool x17), (11, .bool x18), (12, .int .i64 x19), (13, .int .i64 x20), (14, .pointer (some ⟨g52, 0, none⟩)), (16, .int .i64 x54)]) rfl
             try dsimp only at k_158
             obtain rfl := Option.some.inj k_158
             exact ⟨_, rfl, F.only [1, 5, 6, 7, 8, 9, 10, 11, 12, 13, 14, 16, 155] rfl, H⟩
           ·rw [if_neg c160] at k_158
            rw [decide_eq_false c160] at F
            refine qw F (r_fa (off := 0) (F.t 14 rfl) fa35_0) fun a F => ?_
            refine qw F (r_ld (F.t 160 rfl) (cel_cell (o := 0) (H.cell 0 rfl) rfl) one3) fun a F => ?_
            refine qw F (r_gt (F.t 161 rfl) (F.ev (x := .const (.int .i64 7)) rfl)) fun a F => ?_
            refine qw F (r_pickF (F.t 159 rfl) (F.t 162 rfl)) fun a F => ?_
            refine mv F rfl fun a F => ?_
            by_cases c162 : ((a1.getD (x20 : Int).toNat (⟨0, [], [], [], 0, []⟩ : law18_Op)).What) > 7
            ·rw [if_pos c162] at k_158
             rw [decide_eq_true c162] at F
             refine mv F rfl fun a F => ?_
             refine qw F (r_ne (F.t 165 rfl) (F.ev (x := .const (.int .i64 1)) rfl)) fun a F => ?_
             refine qw F (r_pickT (F.t 164 rfl) (F.t 166 rfl)) fun a F => ?_
             refine mv F rfl fun a F => ?_
             by_cases c163 : x54 ≠ 1
             ·rw [if_pos c163] at k_158
              rw [decide_eq_true c163] at F
              refine mv F rfl fun a F => ?_
              refine qw F (r_ne (F.t 169 rfl) (F.ev (x := .const (.int .i64 43)) rfl)) fun a F => ?_
              refine qw F (r_pickT (F.t 168 rfl) (F.t 170 rfl)) fun a F => ?_
              refine as_ F rfl fun a F => ?_
              refine wpList_nil ?_
              replace F := F.only [155, 1, 5, 6, 7, 8, 9, 10, 11, 12, 13, 14, 16] (l' := [(155, .bool (decide (x54 ≠ 43))), (1, .slice A1_ a1.length c1_), (5, .bool x1), (6, .pointer (some ⟨g6, 0, none⟩)), (7, .pointer (some ⟨g57, 0, none⟩)), (8, .pointer (some ⟨g13, 0, none⟩)), (9, .pointer (some ⟨g14, 0, none⟩)), (10, .bool x17), (11, .bool x18), (12, .int .i64 x19), (13, .int .i64 x20), (14, .pointer (some ⟨g52, 0, none⟩)), (16, .int .i64 x54)]) rfl
              try dsimp only at k_158
              obtain rfl := Option.some.inj k_158
              exact ⟨_, rfl, F.only [1, 5, 6, 7, 8, 9, 10, 11, 12, 13, 14, 16, 155] rfl, H⟩
             ·rw [if_neg c163] at k_158
              rw [decide_eq_false c163] at F
              refine of_ F fun a F => ?_
              refine of_ F fun a F => ?_
              refine qw F (r_pickF (F.t 168 rfl) (F.ev (x := .const (.bool false)) rfl)) fun a F => ?_
              refine as_ F rfl fun a F => ?_
              refine wpList_nil ?_
              replace F := F.only [155, 1, 5, 6, 7, 8, 9, 10, 11, 12, 13, 14, 16] (l' := [(155, .bool false), (1, .slice A1_ a1.length c1_), (5, .bool x1), (6, .pointer (some ⟨g6, 0, none⟩)), (7, .pointer (some ⟨g57, 0, none⟩)), (8, .pointer (some ⟨g13, 0, none⟩)), (9, .pointer (some ⟨g14, 0, none⟩)), (10, .bool x17), (11, .bool x18), (12, .int .i64 x19), (13, .int .i64 x20), (14, .pointer (some ⟨g52, 0, none⟩)), (16, .int .i64 x54)]) rfl
              try dsimp only at k_158
              obtain rfl := Option.some.inj k_158
              exact ⟨_, rfl, F.only [1, 5, 6, 7, 8, 9, 10, 11, 12, 13, 14, 16, 155] rfl, H⟩
            ·rw [if_neg c162] at k_158
             rw [decide_eq_false c162] at F
             refine of_ F fun a F => ?_
             refine of_ F fun a F => ?_
             refine qw F (r_pickF (F.t 164 rfl) (F.ev (x := .const (.bool false)) rfl)) fun a F => ?_
             refine mv F rfl fun a F => ?_
             refine of_ F fun a F => ?_
             refine of_ F fun a F => ?_
             refine qw F (r_pickF (F.t 168 rfl) (F.ev (x := .const (.bool false)) rfl)) fun a F => ?_
             refine as_ F rfl fun a F => ?_
             refine wpList_nil ?_
             replace F := F.only [155, 1, 5, 6, 7, 8, 9, 10, 11, 12, 13, 14, 16] (l' := [(155, .bool false), (1, .slice A1_ a1.length c1_), (5, .bool x1), (6, .pointer (some ⟨g6, 0, none⟩)), (7, .pointer (some ⟨g57, 0, none⟩)), (8, .pointer (some ⟨g13, 0, none⟩)), (9, .pointer (some ⟨g14, 0, none⟩)), (10, .bool x17), (11, .bool x18), (12, .int .i64 x19), (13, .int .i64 x20), (14, .pointer (some ⟨g52, 0, none⟩)), (16, .int .i64 x54)]) rfl
             try dsimp only at k_158
             obtain rfl := Option.some.inj k_158
             exact ⟨_, rfl, F.only [1, 5, 6, 7, 8, 9, 10, 11, 12, 13, 14, 16, 155] rfl, H⟩
          ·rintro a w ⟨x158, rfl, F, H⟩
           try dsimp only at k_155 F H
           obtain ⟨o_174, k_174, k_155⟩ := Option.bind_eq_some_iff.1 k_155
           refine cut (fun a w => ∃ (x164 : Bool) (x165 : Int) (x166 : List (List Int)) (x169 : List Int) (x172 : List (List Int)), (x164, x165, x166, x169, x172) = o_174 ∧ ∃ (A167 : Option Addr) (c168 : Nat) (A170 : Option Addr) (c171 : Nat) (A173 : Option Addr) (c174 : Nat), Fr 215 [] [(1, .slice A1_ a1.length c1_), (5, .bool x1), (6, .pointer (some ⟨g6, 0, none⟩)), (7, .pointer (some ⟨g57, 0, none⟩)), (8, .pointer (some ⟨g13, 0, none⟩)), (9, .pointer (some ⟨g14, 0, none⟩)), (10, .bool x17), (11, .bool x164), (12, .int .i64 x165), (13, .int .i64 x20)] a ∧ Hp w0 (rd (kSlice kByte) A167 c168 x166 :: rd kByte A170 c171 x169 :: rd (kSlice kByte) A173 c174 x172 :: rd k_law18_Op A1_ c1_ a1 :: rd kByte A22 c23 x21 :: rd (kSlice kByte) A25 c26 x24 :: ps) (cel g13 [.int .i64 0, .slice A22 x21.length c23, .slice A25 x24.length c26, .slice A167 x166.length c168] 32 :: obj_disk_Disk g6 x55 :: cel g14 [.int .i64 0, .slice A170 x169.length c171, .slice A173 x172.length c174, .slice none 0 0] 32 :: obj_store_Store g57 g6 x53 :: fs) w) ?_ ?_
           ·skip
            by_cases c176 : x158 = true
            ·rw [if_pos c176] at k_174
             rw [c176] at F
             refine wp_cond_true (F.ev rfl) ?_
             refine rg ?_
             refine qw F (r_fa (off := 1) (F.t 14 rfl) fa35_1) fun a F => ?_
             refine qw F (r_ld (F.t 172 rfl) (cel_cell (o := 1) (H.cell 0 rfl) rfl) one29) fun a F => ?_
             refine qw F (r_fa (off := 2) (F.t 14 rfl) fa35_2) fun a F => ?_
             refine qw F (r_ld (F.t 174 rfl) (cel_cell (o := 2) (H.cell 0 rfl) rfl) one30) fun a F => ?_
             refine ls (lbd F (vs := [(1, .slice A44 ((a1.getD (x20 : Int).toNat (⟨0, [], [], [], 0, []⟩ : law18_Op)).State).length c45), (2, .slice A46 ((a1.getD (x20 : Int).toNat (⟨0, [], [], [], 0, []⟩ : law18_Op)).Kept).length c47)]) (cs := [.int .i64 0, .slice A44 ((a1.getD (x20 : Int).toNat (⟨0, [], [], [], 0, []⟩ : law18_Op)).State).length c45, .slice A46 ((a1.getD (x20 : Int).toNat (⟨0, [], [], [], 0, []⟩ : law18_Op)).Kept).length c47, .slice none 0 0]) rfl (fun w => by kernel_rfl) fun a F => ?_)
             obtain ⟨_, hr, H⟩ := Hp.store (t := 32) (o := 0) (n := 4) (vs := [.int .i64 0, .slice A44 ((a1.getD (x20 : Int).toNat (⟨0, [], [], [], 0, []⟩ : law18_Op)).State).length c45, .slice A46 ((a1.getD (x20 : Int).toNat (⟨0, [], [], [], 0, []⟩ : law18_Op)).Kept).length c47, .slice none 0 0]) (cs' := [.int .i64 0, .slice A44 ((a1.getD (x20 : Int).toNat (⟨0, [], [], [], 0, []⟩ : law18_Op)).State).length c45, .slice A46 ((a1.getD (x20 : Int).toNat (⟨0, [], [], [], 0, []⟩ : law18_Op)).Kept).length c47, .slice none 0 0]) (H.f4.f3.f3.f3.f4) (F.t 9 rfl) (F.t 176 rfl) rfl sz32 rfl (Nat.le_of_ble_eq_true rfl) rfl rfl
             refine ls (qn F (.inl rfl) (hr _ _ _ _) fun a F => ?_)
             refine rgend ?_
             replace F := F.only [1, 5, 6, 7, 8, 9, 10, 12, 13] (l' := [(1, .slice A1_ a1.length c1_), (5, .bool x1), (6, .pointer (some ⟨g6, 0, none⟩)), (7, .pointer (some ⟨g57, 0, none⟩)), (8, .pointer (some ⟨g13, 0, none⟩)), (9, .pointer (some ⟨g14, 0, none⟩)), (10, .bool x17), (12, .int .i64 x19), (13, .int .i64 x20)]) rfl
             refine wp_region_lit ?_
             refine as_ F (v := .bool true) rfl fun a F => ?_
             refine wpList_nil ?_
             try dsimp only at k_174
             obtain rfl := Option.some.inj k_174
             exact ⟨_, _, _, _, _, rfl, A28, c29, A44, c45, A46, c47, F.only [1, 5, 6, 7, 8, 9, 10, 11, 12, 13] rfl, H.p6.p6.p2.p5.p5.p12.px6.px6.px6.px6.px6.px6.px6.px6.px6.px6.f4.f1.f4.f4.fx4⟩
            ·rw [if_neg c176] at k_174
             rw [Bool.eq_false_iff.2 c176] at F
             refine wp_cond_false (F.ev rfl) ?_
             refine wp_seq ?_
             obtain ⟨o_177, k_177, k_174⟩ := Option.bind_eq_some_iff.1 k_174
             refine cut (fun a w => ∃ (x177 : Bool), x177 = o_177 ∧ Fr 215 [] [(1, .slice A1_ a1.length c1_), (5, .bool x1), (6, .pointer (some ⟨g6, 0, none⟩)), (7, .pointer (some ⟨g57, 0, none⟩)), (8, .pointer (some ⟨g13, 0, none⟩)), (9, .pointer (some ⟨g14, 0, none⟩)), (10, .bool x17), (11, .bool x18), (12, .int .i64 x19), (13, .int .i64 x20), (14, .pointer (some ⟨g52, 0, none⟩)), (16, .int .i64 x54), (177, .bool x177)] a ∧ Hp w0 (rd k_law18_Op A1_ c1_ a1 :: rd kByte A44 c45 ((a1.getD (x20 : Int).toNat (⟨0, [], [], [], 0, []⟩ : law18_Op)).State) :: rd (kSlice kByte) A46 c47 ((a1.getD (x20 : Int).toNat (⟨0, [], [], [], 0, []⟩ : law18_Op)).Kept) :: rd kByte A48 c49 ((a1.getD (x20 : Int).toNat (⟨0, [], [], [], 0, []⟩ : law18_Op)).Entry) :: rd kBool A50 c51 ((a1.getD (x20 : Int).toNat (⟨0, [], [], [], 0, []⟩ : law18_Op)).Keep) :: rd kByte A22 c23 x21 :: rd (kSlice kByte) A25 c26 x24 :: rd (kSlice kByte) A28 c29 x27 :: rd kByte A32 c33 x31 :: rd (kSlice kByte) A35 c36 x34 :: ps) (cel g52 [.int .i64 ((a1.getD (x20 : Int).toNat (⟨0, [], [], [], 0, []⟩ : law18_Op)).What), .slice A44 ((a1.getD (x20 : Int).toNat (⟨0, [], [], [], 0, []⟩ : law18_Op)).State).length c45, .slice A46 ((a1.getD (x20 : Int).toNat (⟨0, [], [], [], 0, []⟩ : law18_Op)).Kept).length c47, .slice A48 ((a1.getD (x20 : Int).toNat (⟨0, [], [], [], 0, []⟩ : law18_Op)).Entry).length c49, .int .i64 ((a1.getD (x20 : Int).toNat (⟨0, [], [], [], 0, []⟩ : law18_Op)).N), .slice A50 ((a1.getD (x20 : Int).toNat (⟨0, [], [], [], 0, []⟩ : law18_Op)).Keep).length c51] 35 :: cel g13 [.int .i64 0, .slice A22 x21.length c23, .slice A25 x24.length c26, .slice A28 x27.length c29] 32 :: obj_disk_Disk g6 x55 :: cel g14 [.int .i64 0, .slice A32 x31.length c33, .slice A35 x34.length c36, .slice none 0 0] 32 :: obj_store_Store g57 g6 x53 :: fs) w) ?_ ?_
             ·skip
              refine wp_region_lit ?_
              refine qw F (r_fa (off := 0) (F.t 14 rfl) fa35_0) fun a F => ?_
              refine qw F (r_ld (F.t 178 rfl) (cel_cell (o := 0) (H.cell 0 rfl) rfl) one3) fun a F => ?_
              refine qw F (r_ge (F.t 179 rfl) (F.ev (x := .const (.int .i64 2)) rfl)) fun a F => ?_
              refine mv F rfl fun a F => ?_
              by_cases c179 : ((a1.getD (x20 : Int).toNat (⟨0, [], [], [], 0, []⟩ : law18_Op)).What) ≥ 2
              ·rw [if_pos c179] at k_177
               rw [decide_eq_true c179] at F
               refine qw F (r_fa (off := 0) (F.t 14 rfl) fa35_0) fun a F => ?_
               refine qw F (r_ld (F.t 182 rfl) (cel_cell (o := 0) (H.cell 0 rfl) rfl) one3) fun a F => ?_
               refine qw F (r_le (F.t 183 rfl) (F.ev (x := .const (.int .i64 4)) rfl)) fun a F => ?_
               refine qw F (r_pickT (F.t 181 rfl) (F.t 184 rfl)) fun a F => ?_
               refine mv F rfl fun a F => ?_
               by_cases c180 : ((a1.getD (x20 : Int).toNat (⟨0, [], [], [], 0, []⟩ : law18_Op)).What) ≤ 4
               ·rw [if_pos c180] at k_177
                rw [decide_eq_true c180] at F
                refine mv F rfl fun a F => ?_
                refine qw F (r_eq (F.t 187 rfl) (F.ev (x := .const (.int .i64 0)) rfl)) fun a F => ?_
                refine qw F (r_pickT (F.t 186 rfl) (F.t 188 rfl)) fun a F => ?_
                refine as_ F rfl fun a F => ?_
                refine wpList_nil ?_
                replace F := F.only [177, 1, 5, 6, 7, 8, 9, 10, 11, 12, 13, 14, 16] (l' := [(177, .bool (decide (x54 = 0))), (1, .slice A1_ a1.length c1_), (5, .bool x1), (6, .pointer (some ⟨g6, 0, none⟩)), (7, .pointer (some ⟨g57, 0, none⟩)), (8, .pointer (some ⟨g13, 0, none⟩)), (9, .pointer (some ⟨g14, 0, none⟩)), (10, .bool x17), (11, .bool x18), (12, .int .i64 x19), (13, .int .i64 x20), (14, .pointer (some ⟨g52, 0, none⟩)), (16, .int .i64 x54)]) rfl
                try dsimp only at k_177
                obtain rfl := Option.some.inj k_177
                exact ⟨_, rfl, F.only [1, 5, 6, 7, 8, 9, 10, 11, 12, 13, 14, 16, 177] rfl, H⟩
               ·rw [if_neg c180] at k_177
                rw [decide_eq_false c180] at F
                refine of_ F fun a F => ?_
                refine of_ F fun a F => ?_
                refine qw F (r_pickF (F.t 186 rfl) (F.ev (x := .const (.bool false)) rfl)) fun a F => ?_
                refine as_ F rfl fun a F => ?_
                refine wpList_nil ?_
                replace F := F.only [177, 1, 5, 6, 7, 8, 9, 10, 11, 12, 13, 14, 16] (l' := [(177, .bool false), (1, .slice A1_ a1.length c1_), (5, .bool x1), (6, .pointer (some ⟨g6, 0, none⟩)), (7, .pointer (some ⟨g57, 0, none⟩)), (8, .pointer (some ⟨g13, 0, none⟩)), (9, .pointer (some ⟨g14, 0, none⟩)), (10, .bool x17), (11, .bool x18), (12, .int .i64 x19), (13, .int .i64 x20), (14, .pointer (some ⟨g52, 0, none⟩)), (16, .int .i64 x54)]) rfl
                try dsimp only at k_177
                obtain rfl := Option.some.inj k_177
                exact ⟨_, rfl, F.only [1, 5, 6, 7, 8, 9, 10, 11, 12, 13, 14, 16, 177] rfl, H⟩
              ·rw [if_neg c179] at k_177
               rw [decide_eq_false c179] at F
               refine of_ F fun a F => ?_
               refine of_ F fun a F => ?_
               refine of_ F fun a F => ?_
               refine qw F (r_pickF (F.t 181 rfl) (F.ev (x := .const (.bool false)) rfl)) fun a F => ?_
               refine mv F rfl fun a F => ?_
               refine of_ F fun a F => ?_
               refine of_ F fun a F => ?_
               refine qw F (r_pickF (F.t 186 rfl) (F.ev (x := .const (.bool false)) rfl)) fun a F => ?_
               refine as_ F rfl fun a F => ?_
               refine wpList_nil ?_
               replace F := F.only [177, 1, 5, 6, 7, 8, 9, 10, 11, 12, 13, 14, 16] (l' := [(177, .bool false), (1, .slice A1_ a1.length c1_), (5, .bool x1), (6, .pointer (some ⟨g6, 0, none⟩)), (7, .pointer (some ⟨g57, 0, none⟩)), (8, .pointer (some ⟨g13, 0, none⟩)), (9, .pointer (some ⟨g14, 0, none⟩)), (10, .bool x17), (11, .bool x18), (12, .int .i64 x19), (13, .int .i64 x20), (14, .pointer (some ⟨g52, 0, none⟩)), (16, .int .i64 x54)]) rfl
               try dsimp only at k_177
               obtain rfl := Option.some.inj k_177
               exact ⟨_, rfl, F.only [1, 5, 6, 7, 8, 9, 10, 11, 12, 13, 14, 16, 177] rfl, H⟩
             ·rintro a w ⟨x177, rfl, F, H⟩
              try dsimp only at k_174 F H
              obtain ⟨o_184, k_184, k_174⟩ := Option.bind_eq_some_iff.1 k_174
              refine cut (fun a w => ∃ (x181 : Int) (x182 : List (List Int)), (x181, x182) = o_184 ∧ ∃ (A183 : Option Addr) (c184 : Nat), Fr 215 [] [(1, .slice A1_ a1.length c1_), (5, .bool x1), (6, .pointer (some ⟨g6, 0, none⟩)), (7, .pointer (some ⟨g57, 0, none⟩)), (8, .pointer (some ⟨g13, 0, none⟩)), (9, .pointer (some ⟨g14, 0, none⟩)), (10, .bool x17), (11, .bool x18), (12, .int .i64 x181), (13, .int .i64 x20)] a ∧ Hp w0 (rd (kSlice kByte) A183 c184 x182 :: rd k_law18_Op A1_ c1_ a1 :: rd kByte A22 c23 x21 :: rd (kSlice kByte) A25 c26 x24 :: rd kByte A32 c33 x31 :: rd (kSlice kByte) A35 c36 x34 :: ps) (cel g13 [.int .i64 0, .slice A22 x21.length c23, .slice A25 x24.length c26, .slice A183 x182.length c184] 32 :: obj_disk_Disk g6 x55 :: cel g14 [.int .i64 0, .slice A32 x31.length c33, .slice A35 x34.length c36, .slice none 0 0] 32 :: obj_store_Store g57 g6 x53 :: fs) w) ?_ ?_
              ·skip
               by_cases c186 : x177 = true
               ·rw [if_pos c186] at k_184
                rw [c186] at F
                refine wp_cond_true (F.ev rfl) ?_
                replace H := H.drew
                have HS := H.fx4.fx2
                refine dr (fun w => Hp w0 (rd k_law18_Op A1_ c1_ a1 :: rd kByte A44 c45 ((a1.getD (x20 : Int).toNat (⟨0, [], [], [], 0, []⟩ : law18_Op)).State) :: rd (kSlice kByte) A46 c47 ((a1.getD (x20 : Int).toNat (⟨0, [], [], [], 0, []⟩ : law18_Op)).Kept) :: rd kByte A48 c49 ((a1.getD (x20 : Int).toNat (⟨0, [], [], [], 0, []⟩ : law18_Op)).Entry) :: rd kBool A50 c51 ((a1.getD (x20 : Int).toNat (⟨0, [], [], [], 0, []⟩ : law18_Op)).Keep) :: rd kByte A22 c23 x21 :: rd (kSlice kByte) A25 c26 x24 :: rd (kSlice kByte) A28 c29 x27 :: rd kByte A32 c33 x31 :: rd (kSlice kByte) A35 c36 x34 :: ps) (cel g52 [.int .i64 ((a1.getD (x20 : Int).toNat (⟨0, [], [], [], 0, []⟩ : law18_Op)).What), .slice A44 ((a1.getD (x20 : Int).toNat (⟨0, [], [], [], 0, []⟩ : law18_Op)).State).length c45, .slice A46 ((a1.getD (x20 : Int).toNat (⟨0, [], [], [], 0, []⟩ : law18_Op)).Kept).length c47, .slice A48 ((a1.getD (x20 : Int).toNat (⟨0, [], [], [], 0, []⟩ : law18_Op)).Entry).length c49, .int .i64 ((a1.getD (x20 : Int).toNat (⟨0, [], [], [], 0, []⟩ : law18_Op)).N), .slice A50 ((a1.getD (x20 : Int).toNat (⟨0, [], [], [], 0, []⟩ : law18_Op)).Keep).length c51] 35 :: cel g13 [.int .i64 0, .slice A22 x21.length c23, .slice A25 x24.length c26, .slice A28 x27.length c29] 32 :: cel g14 [.int .i64 0, .slice A32 x31.length c33, .slice A35 x34.length c36, .slice none 0 0] 32 :: fs) w) _ (by kernel_rfl) ?_ (n := 10)
                refine dq 1 F rfl (by kernel_rfl) NP HS (fun w S => (r_fa (off := 3) (F.t 8 rfl) fa32_3)) fun a F => ?_
                refine dq 2 F rfl (by kernel_rfl) NP HS (fun w S => (r_ld (F.t 191 rfl) (cel_cell (o := 3) (S.cell 1 rfl) rfl) one30)) fun a F => ?_
                refine dq 4 F rfl (by kernel_rfl) NP HS (fun w S => (r_fa (off := 3) (F.t 14 rfl) fa35_3)) fun a F => ?_
                refine dq 5 F rfl (by kernel_rfl) NP HS (fun w S => (r_ld (F.t 194 rfl) (cel_cell (o := 3) (S.cell 0 rfl) rfl) one29)) fun a F => ?_
                refine d2 0 6 rfl rfl (by kernel_rfl) ?_ ?_
                ·skip
                 refine lbs F H (e := 29) (vs := []) (cs := []) rfl (fun w => by kernel_rfl) fun g187 w a H F => ?_
                 have HS := H.fx5.fx3.fx0
                 refine kg _ HS (fun w S => S) ?_
                 refine d2 3 6 rfl rfl (by kernel_rfl) ?_ ?_
                 ·skip
                  replace H := Hp.litOwn (kd := (kSlice kByte)) (xs := []) (H) (SayL.nil) (Nat.le_of_ble_eq_true rfl)
                  obtain ⟨c188, k_184⟩ := guardO k_184
                  obtain ⟨A189, c190, _, hr, H⟩ := Hp.appendRd (kd := (kSlice kByte)) (xs := []) (ys := x27) (H) 7 rfl (F.t 190 rfl) (F.t 192 rfl) Try.underlying30 ti29 rfl (by decide) (by decide) c188
                  rw [List.nil_append] at hr H
                  refine qv F (hr _ _ _ _ _) fun a F => ?_
                  have HS := H.fx5.fx3.fx0
                  refine kg _ HS (fun w S => S) ?_
                  refine d1 6 rfl (by kernel_rfl) (lbs F H (e := 29) (vs := [(0, .slice A48 ((a1.getD (x20 : Int).toNat (⟨0, [], [], [], 0, []⟩ : law18_Op)).Entry).length c49)]) (cs := [.slice A48 ((a1.getD (x20 : Int).toNat (⟨0, [], [], [], 0, []⟩ : law18_Op)).Entry).length c49]) rfl (fun w => by kernel_rfl) fun g191 w a H F => ?_)
                  have HS := H.fx6.fx4.fx1.fx0
                  refine kg _ HS (fun w S => S) ?_
                  obtain ⟨c192, k_184⟩ := guardO k_184
                  obtain ⟨A193, c194, _, hr, H⟩ := Hp.appendCelL (kd := (kSlice kByte)) (xs := x27) (ys := [(a1.getD (x20 : Int).toNat (⟨0, [], [], [], 0, []⟩ : law18_Op)).Entry]) (H.f6.f6.f6.f6.f6.f5.f6) (F.t 193 rfl) (F.t 196 rfl) Try.underlying30 ti29 rfl (by decide) (by decide) rfl ((SayL.cons (kd := (kSlice kByte)) (c1 := [.slice A48 ((a1.getD (x20 : Int).toNat (⟨0, [], [], [], 0, []⟩ : law18_Op)).Entry).length c49]) (y := (a1.getD (x20 : Int).toNat (⟨0, [], [], [], 0, []⟩ : law18_Op)).Entry) (fun Z hp => ⟨A48, c49, rfl, pat hp 3 rfl⟩) SayL.nil)) c192
                  refine d1 7 rfl (by kernel_rfl) (qv F (hr _ _ _ _ _) fun a F => ?_)
                  have HS := H.fx5.fx3.fx0
                  refine kg _ HS (fun w S => S) ?_
                  refine dq 8 F rfl (by kernel_rfl) NP HS (fun w S => (r_fa (off := 3) (F.t 8 rfl) fa32_3)) fun a F => ?_
                  obtain ⟨_, hr, H⟩ := Hp.store (t := 30) (o := 3) (n := 1) (vs := [.slice A193 ((x27 ++ ([(a1.getD (x20 : Int).toNat (⟨0, [], [], [], 0, []⟩ : law18_Op)).Entry]))).length c194]) (cs' := [.int .i64 0, .slice A22 x21.length c23, .slice A25 x24.length c26, .slice A193 ((x27 ++ ([(a1.getD (x20 : Int).toNat (⟨0, [], [], [], 0, []⟩ : law18_Op)).Entry]))).length c194]) (H.f5.f5.f5.f4.f4.f5) (F.t 198 rfl) (F.t 197 rfl) rfl sz30 rfl (Nat.le_of_ble_eq_true rfl) rfl rfl
                  refine d1 9 rfl (by kernel_rfl) (qn F (.inl rfl) (hr _ _ _ _) fun a F => ?_)
                  have HS := H.fx5.fx3.fx1
                  refine kga (by kernel_rfl) HS ?_
                  refine ddone (by kernel_rfl) ?_
                  replace F := F.only [1, 5, 6, 7, 8, 9, 10, 11, 12, 13] (l' := [(1, .slice A1_ a1.length c1_), (5, .bool x1), (6, .pointer (some ⟨g6, 0, none⟩)), (7, .pointer (some ⟨g57, 0, none⟩)), (8, .pointer (some ⟨g13, 0, none⟩)), (9, .pointer (some ⟨g14, 0, none⟩)), (10, .bool x17), (11, .bool x18), (12, .int .i64 x19), (13, .int .i64 x20)]) rfl
                  replace H := (H.f5.f5.f5.f5.f4.f5).freeze
                  try dsimp only at k_184
                  obtain rfl := Option.some.inj k_184
                  exact ⟨_, _, rfl, A193, c194, F.only [1, 5, 6, 7, 8, 9, 10, 11, 12, 13] rfl, H.px8.px5.px4.px3.px2.fx1⟩
                 ·skip
                  refine lbs F H (e := 29) (vs := [(0, .slice A48 ((a1.getD (x20 : Int).toNat (⟨0, [], [], [], 0, []⟩ : law18_Op)).Entry).length c49)]) (cs := [.slice A48 ((a1.getD (x20 : Int).toNat (⟨0, [], [], [], 0, []⟩ : law18_Op)).Entry).length c49]) rfl (fun w => by kernel_rfl) fun g195 w a H F => ?_
                  have HS := H.fx6.fx4.fx1.fx0
                  refine kg _ HS (fun w S => S) ?_
                  replace H := Hp.litOwn (kd := (kSlice kByte)) (xs := []) (H.f6.f6.f6.f6.f6.f5.f6) (SayL.nil) (Nat.le_of_ble_eq_true rfl)
                  obtain ⟨c196, k_184⟩ := guardO k_184
                  obtain ⟨A197, c198, _, hr, H⟩ := Hp.appendRd (kd := (kSlice kByte)) (xs := []) (ys := x27) (H) 7 rfl (F.t 190 rfl) (F.t 192 rfl) Try.underlying30 ti29 rfl (by decide) (by decide) c196
                  rw [List.nil_append] at hr H
                  refine d1 3 rfl (by kernel_rfl) (qv F (hr _ _ _ _ _) fun a F => ?_)
                  have HS := H.fx6.fx4.fx1.fx0
                  refine kg _ HS (fun w S => S) ?_
                  obtain ⟨c199, k_184⟩ := guardO k_184
                  obtain ⟨A200, c201, _, hr, H⟩ := Hp.appendCelL (kd := (kSlice kByte)) (xs := x27) (ys := [(a1.getD (x20 : Int).toNat (⟨0, [], [], [], 0, []⟩ : law18_Op)).Entry]) (H) (F.t 193 rfl) (F.t 196 rfl) Try.underlying30 ti29 rfl (by decide) (by decide) rfl ((SayL.cons (kd := (kSlice kByte)) (c1 := [.slice A48 ((a1.getD (x20 : Int).toNat (⟨0, [], [], [], 0, []⟩ : law18_Op)).Entry).length c49]) (y := (a1.getD (x20 : Int).toNat (⟨0, [], [], [], 0, []⟩ : law18_Op)).Entry) (fun Z hp => ⟨A48, c49, rfl, pat hp 3 rfl⟩) SayL.nil)) c199
                  refine d1 7 rfl (by kernel_rfl) (qv F (hr _ _ _ _ _) fun a F => ?_)
                  have HS := H.fx5.fx3.fx0
                  refine kg _ HS (fun w S => S) ?_
                  refine dq 8 F rfl (by kernel_rfl) NP HS (fun w S => (r_fa (off := 3) (F.t 8 rfl) fa32_3)) fun a F => ?_
                  obtain ⟨_, hr, H⟩ := Hp.store (t := 30) (o := 3) (n := 1) (vs := [.slice A200 ((x27 ++ ([(a1.getD (x20 : Int).toNat (⟨0, [], [], [], 0, []⟩ : law18_Op)).Entry]))).length c201]) (cs' := [.int .i64 0, .slice A22 x21.length c23, .slice A25 x24.length c26, .slice A200 ((x27 ++ ([(a1.getD (x20 : Int).toNat (⟨0, [], [], [], 0, []⟩ : law18_Op)).Entry]))).length c201]) (H.f5.f5.f5.f4.f4.f5) (F.t 198 rfl) (F.t 197 rfl) rfl sz30 rfl (Nat.le_of_ble_eq_true rfl) rfl rfl
                  refine d1 9 rfl (by kernel_rfl) (qn F (.inl rfl) (hr _ _ _ _) fun a F => ?_)
                  have HS := H.fx5.fx3.fx1
                  refine kga (by kernel_rfl) HS ?_
                  refine ddone (by kernel_rfl) ?_
                  replace F := F.only [1, 5, 6, 7, 8, 9, 10, 11, 12, 13] (l' := [(1, .slice A1_ a1.length c1_), (5, .bool x1), (6, .pointer (some ⟨g6, 0, none⟩)), (7, .pointer (some ⟨g57, 0, none⟩)), (8, .pointer (some ⟨g13, 0, none⟩)), (9, .pointer (some ⟨g14, 0, none⟩)), (10, .bool x17), (11, .bool x18), (12, .int .i64 x19), (13, .int .i64 x20)]) rfl
                  replace H := (H.f5.f5.f5.f5.f4.f5).freeze
                  try dsimp only at k_184
                  obtain rfl := Option.some.inj k_184
                  exact ⟨_, _, rfl, A200, c201, F.only [1, 5, 6, 7, 8, 9, 10, 11, 12, 13] rfl, H.px8.px5.px4.px3.px2.fx1⟩
                ·skip
                 refine lbs F H (e := 29) (vs := [(0, .slice A48 ((a1.getD (x20 : Int).toNat (⟨0, [], [], [], 0, []⟩ : law18_Op)).Entry).length c49)]) (cs := [.slice A48 ((a1.getD (x20 : Int).toNat (⟨0, [], [], [], 0, []⟩ : law18_Op)).Entry).length c49]) rfl (fun w => by kernel_rfl) fun g202 w a H F => ?_
                 have HS := H.fx5.fx3.fx0
                 refine kg _ HS (fun w S => S) ?_
                 refine d1 0 rfl (by kernel_rfl) (lbs F H (e := 29) (vs := []) (cs := []) rfl (fun w => by kernel_rfl) fun g203 w a H F => ?_)
                 have HS := H.fx6.fx4.fx1.fx0
                 refine kg _ HS (fun w S => S) ?_
                 replace H := Hp.litOwn (kd := (kSlice kByte)) (xs := []) (H) (SayL.nil) (Nat.le_of_ble_eq_true rfl)
                 obtain ⟨c204, k_184⟩ := guardO k_184
                 obtain ⟨A205, c206, _, hr, H⟩ := Hp.appendRd (kd := (kSlice kByte)) (xs := []) (ys := x27) (H) 7 rfl (F.t 190 rfl) (F.t 192 rfl) Try.underlying30 ti29 rfl (by decide) (by decide) c204
                 rw [List.nil_append] at hr H
                 refine d1 3 rfl (by kernel_rfl) (qv F (hr _ _ _ _ _) fun a F => ?_)
                 have HS := H.fx6.fx4.fx1.fx0
                 refine kg _ HS (fun w S => S) ?_
                 obtain ⟨c207, k_184⟩ := guardO k_184
                 obtain ⟨A208, c209, _, hr, H⟩ := Hp.appendCelL (kd := (kSlice kByte)) (xs := x27) (ys := [(a1.getD (x20 : Int).toNat (⟨0, [], [], [], 0, []⟩ : law18_Op)).Entry]) (H) (F.t 193 rfl) (F.t 196 rfl) Try.underlying30 ti29 rfl (by decide) (by decide) rfl ((SayL.cons (kd := (kSlice kByte)) (c1 := [.slice A48 ((a1.getD (x20 : Int).toNat (⟨0, [], [], [], 0, []⟩ : law18_Op)).Entry).length c49]) (y := (a1.getD (x20 : Int).toNat (⟨0, [], [], [], 0, []⟩ : law18_Op)).Entry) (fun Z hp => ⟨A48, c49, rfl, pat hp 3 rfl⟩) SayL.nil)) c207
                 refine d1 7 rfl (by kernel_rfl) (qv F (hr _ _ _ _ _) fun a F => ?_)
                 have HS := H.fx5.fx3.fx0
                 refine kg _ HS (fun w S => S) ?_
                 refine dq 8 F rfl (by kernel_rfl) NP HS (fun w S => (r_fa (off := 3) (F.t 8 rfl) fa32_3)) fun a F => ?_
                 obtain ⟨_, hr, H⟩ := Hp.store (t := 30) (o := 3) (n := 1) (vs := [.slice A208 ((x27 ++ ([(a1.getD (x20 : Int).toNat (⟨0, [], [], [], 0, []⟩ : law18_Op)).Entry]))).length c209]) (cs' := [.int .i64 0, .slice A22 x21.length c23, .slice A25 x24.length c26, .slice A208 ((x27 ++ ([(a1.getD (x20 : Int).toNat (⟨0, [], [], [], 0, []⟩ : law18_Op)).Entry]))).length c209]) (H.f5.f5.f5.f4.f4.f5) (F.t 198 rfl) (F.t 197 rfl) rfl sz30 rfl (Nat.le_of_ble_eq_true rfl) rfl rfl
                 refine d1 9 rfl (by kernel_rfl) (qn F (.inl rfl) (hr _ _ _ _) fun a F => ?_)
                 have HS := H.fx5.fx3.fx1
                 refine kga (by kernel_rfl) HS ?_
                 refine ddone (by kernel_rfl) ?_
                 replace F := F.only [1, 5, 6, 7, 8, 9, 10, 11, 12, 13] (l' := [(1, .slice A1_ a1.length c1_), (5, .bool x1), (6, .pointer (some ⟨g6, 0, none⟩)), (7, .pointer (some ⟨g57, 0, none⟩)), (8, .pointer (some ⟨g13, 0, none⟩)), (9, .pointer (some ⟨g14, 0, none⟩)), (10, .bool x17), (11, .bool x18), (12, .int .i64 x19), (13, .int .i64 x20)]) rfl
                 replace H := (H.f5.f5.f5.f5.f4.f5).freeze
                 try dsimp only at k_184
                 obtain rfl := Option.some.inj k_184
                 exact ⟨_, _, rfl, A208, c209, F.only [1, 5, 6, 7, 8, 9, 10, 11, 12, 13] rfl, H.px8.px5.px4.px3.px2.fx1⟩
               ·rw [if_neg c186] at k_184
                rw [Bool.eq_false_iff.2 c186] at F
                refine wp_cond_false (F.ev rfl) ?_
                refine wp_seq ?_
                obtain ⟨o_210, k_210, k_184⟩ := Option.bind_eq_some_iff.1 k_184
                refine cut (fun a w => ∃ (x210 : Bool), x210 = o_210 ∧ Fr 215 [] [(1, .slice A1_ a1.length c1_), (5, .bool x1), (6, .pointer (some ⟨g6, 0, none⟩)), (7, .pointer (some ⟨g57, 0, none⟩)), (8, .pointer (some ⟨g13, 0, none⟩)), (9, .pointer (some ⟨g14, 0, none⟩)), (10, .bool x17), (11, .bool x18), (12, .int .i64 x19), (13, .int .i64 x20), (199, .bool x210)] a ∧ Hp w0 (rd k_law18_Op A1_ c1_ a1 :: rd kByte A22 c23 x21 :: rd (kSlice kByte) A25 c26 x24 :: rd (kSlice kByte) A28 c29 x27 :: rd kByte A32 c33 x31 :: rd (kSlice kByte) A35 c36 x34 :: ps) (cel g13 [.int .i64 0, .slice A22 x21.length c23, .slice A25 x24.length c26, .slice A28 x27.length c29] 32 :: obj_disk_Disk g6 x55 :: cel g14 [.int .i64 0, .slice A32 x31.length c33, .slice A35 x34.length c36, .slice none 0 0] 32 :: obj_store_Store g57 g6 x53 :: fs) w) ?_ ?_
                ·skip
                 refine wp_region_lit ?_
                 refine qw F (r_fa (off := 0) (F.t 14 rfl) fa35_0) fun a F => ?_
                 refine qw F (r_ld (F.t 200 rfl) (cel_cell (o := 0) (H.cell 0 rfl) rfl) one3) fun a F => ?_
                 refine qw F (r_eq (F.t 201 rfl) (F.ev (x := .const (.int .i64 5)) rfl)) fun a F => ?_
                 refine mv F rfl fun a F => ?_
                 by_cases c212 : ((a1.getD (x20 : Int).toNat (⟨0, [], [], [], 0, []⟩ : law18_Op)).What) = 5
                 ·rw [if_pos c212] at k_210
                  rw [decide_eq_true c212] at F
                  refine mv F rfl fun a F => ?_
                  refine qw F (r_eq (F.t 204 rfl) (F.ev (x := .const (.int .i64 0)) rfl)) fun a F => ?_
                  refine qw F (r_pickT (F.t 203 rfl) (F.t 205 rfl)) fun a F => ?_
                  refine as_ F rfl fun a F => ?_
                  refine wpList_nil ?_
                  replace F := F.only [199, 1, 5, 6, 7, 8, 9, 10, 11, 12, 13] (l' := [(199, .bool (decide (x54 = 0))), (1, .slice A1_ a1.length c1_), (5, .bool x1), (6, .pointer (some ⟨g6, 0, none⟩)), (7, .pointer (some ⟨g57, 0, none⟩)), (8, .pointer (some ⟨g13, 0, none⟩)), (9, .pointer (some ⟨g14, 0, none⟩)), (10, .bool x17), (11, .bool x18), (12, .int .i64 x19), (13, .int .i64 x20)]) rfl
                  try dsimp only at k_210
                  obtain rfl := Option.some.inj k_210
                  exact ⟨_, rfl, F.only [1, 5, 6, 7, 8, 9, 10, 11, 12, 13, 199] rfl, H.px4.px3.px2.px1.fx0⟩
                 ·rw [if_neg c212] at k_210
                  rw [decide_eq_false c212] at F
                  refine of_ F fun a F => ?_
                  refine of_ F fun a F => ?_
                  refine qw F (r_pickF (F.t 203 rfl) (F.ev (x := .const (.bool false)) rfl)) fun a F => ?_
                  refine as_ F rfl fun a F => ?_
                  refine wpList_nil ?_
                  replace F := F.only [199, 1, 5, 6, 7, 8, 9, 10, 11, 12, 13] (l' := [(199, .bool false), (1, .slice A1_ a1.length c1_), (5, .bool x1), (6, .pointer (some ⟨g6, 0, none⟩)), (7, .pointer (some ⟨g57, 0, none⟩)), (8, .pointer (some ⟨g13, 0, none⟩)), (9, .pointer (some ⟨g14, 0, none⟩)), (10, .bool x17), (11, .bool x18), (12, .int .i64 x19), (13, .int .i64 x20)]) rfl
                  try dsimp only at k_210
                  obtain rfl := Option.some.inj k_210
                  exact ⟨_, rfl, F.only [1, 5, 6, 7, 8, 9, 10, 11, 12, 13, 199] rfl, H.px4.px3.px2.px1.fx0⟩
                ·rintro a w ⟨x210, rfl, F, H⟩
                 try dsimp only at k_184 F H
                 obtain ⟨o_213, k_213, k_184⟩ := Option.bind_eq_some_iff.1 k_184
                 refine cut (fun a w => ∃ (x213 : Int), x213 = o_213 ∧ Fr 215 [] [(1, .slice A1_ a1.length c1_), (5, .bool x1), (6, .pointer (some ⟨g6, 0, none⟩)), (7, .pointer (some ⟨g57, 0, none⟩)), (8, .pointer (some ⟨g13, 0, none⟩)), (9, .pointer (some ⟨g14, 0, none⟩)), (10, .bool x17), (11, .bool x18), (12, .int .i64 x213), (13, .int .i64 x20)] a ∧ Hp w0 (rd k_law18_Op A1_ c1_ a1 :: rd kByte A22 c23 x21 :: rd (kSlice kByte) A25 c26 x24 :: rd (kSlice kByte) A28 c29 x27 :: rd kByte A32 c33 x31 :: rd (kSlice kByte) A35 c36 x34 :: ps) (cel g13 [.int .i64 0, .slice A22 x21.length c23, .slice A25 x24.length c26, .slice A28 x27.length c29] 32 :: obj_disk_Disk g6 x55 :: cel g14 [.int .i64 0, .slice A32 x31.length c33, .slice A35 x34.length c36, .slice none 0 0] 32 :: obj_store_Store g57 g6 x53 :: fs) w) ?_ ?_
                 ·skip
                  by_cases c215 : x210 = true
                  ·rw [if_pos c215] at k_213
                   rw [c215] at F
                   refine wp_cond_true (F.ev rfl) ?_
                   refine wp_region_lit ?_
                   refine qw F (r_fa (off := 2) (F.t 8 rfl) fa32_2) fun a F => ?_
                   refine qw F (r_ld (F.t 207 rfl) (cel_cell (o := 2) (H.cell 0 rfl) rfl) one30) fun a F => ?_
                   refine qw F (r_len (F.t 208 rfl) Try.underlying30) fun a F => ?_
                   refine qw F (r_fa (off := 3) (F.t 8 rfl) fa32_3) fun a F => ?_
                   refine qw F (r_ld (F.t 210 rfl) (cel_cell (o := 3) (H.cell 0 rfl) rfl) one30) fun a F => ?_
                   refine qw F (r_len (F.t 211 rfl) Try.underlying30) fun a F => ?_
                   refine qw F (r_add (F.t 209 rfl) (F.t 212 rfl)) fun a F => ?_
                   refine as_ F rfl fun a F => ?_
                   refine wpList_nil ?_
                   replace F := F.only [12, 1, 5, 6, 7, 8, 9, 10, 11, 13] (l' := [(12, .int .i64 (IntKind.i64.wrap ((x24.length : Int) + (x27.length : Int)))), (1, .slice A1_ a1.length c1_), (5, .bool x1), (6, .pointer (some ⟨g6, 0, none⟩)), (7, .pointer (some ⟨g57, 0, none⟩)), (8, .pointer (some ⟨g13, 0, none⟩)), (9, .pointer (some ⟨g14, 0, none⟩)), (10, .bool x17), (11, .bool x18), (13, .int .i64 x20)]) rfl
                   try dsimp only at k_213
                   obtain rfl := Option.some.inj k_213
                   exact ⟨_, rfl, F.only [1, 5, 6, 7, 8, 9, 10, 11, 12, 13] rfl, H⟩
                  ·rw [if_neg c215] at k_213
                   rw [Bool.eq_false_iff.2 c215] at F
                   refine wp_cond_false (F.ev rfl) ?_
                   refine wp_skip ?_
                   try dsimp only at k_213
                   obtain rfl := Option.some.inj k_213
                   exact ⟨_, rfl, F.only [1, 5, 6, 7, 8, 9, 10, 11, 12, 13] rfl, H⟩
                 ·rintro a w ⟨x213, rfl, F, H⟩
                  try dsimp only at k_184 F H
                  try dsimp only at k_184
                  obtain rfl := Option.some.inj k_184
                  exact ⟨_, _, rfl, A28, c29, F.only [1, 5, 6, 7, 8, 9, 10, 11, 12, 13] rfl, H.p5.p5.p4.p4.p4.p8.px6.px6.px6.px6.px6.px6⟩
              ·rintro a w ⟨x181, x182, rfl, A183, c184, F, H⟩
               try dsimp only at k_174 F H
               try dsimp only at k_174
               obtain rfl := Option.some.inj k_174
               exact ⟨_, _, _, _, _, rfl, A183, c184, A32, c33, A35, c36, F.only [1, 5, 6, 7, 8, 9, 10, 11, 12, 13] rfl, H.p3.p3.p3.p8.p8.p5.px6.px6.px6.px6.px6.px6⟩
           ·rintro a w ⟨x164, x165, x166, x169, x172, rfl, A167, c168, A170, c171, A173, c174, F, H⟩
            try dsimp only at k_155 F H
            try dsimp only at k_155
            obtain rfl := Option.some.inj k_155
            exact ⟨_, _, _, _, _, _, _, _, rfl, A22, c23, A25, c26, A167, c168, A170, c171, A173, c174, F.only [1, 5, 6, 7, 8, 9, 10, 11, 12, 13] rfl, H.p3.p3.p3.p3.p9.p9.px6.px6.px6.px6.px6.px6⟩
        ·rintro a w ⟨x138, x139, x140, x141, x144, x147, x150, x153, rfl, A142, c143, A145, c146, A148, c149, A151, c152, A154, c155, F, H⟩
         try dsimp only at k_82 F H
         try dsimp only at k_82
         obtain rfl := Option.some.inj k_82
         exact ⟨_, _, _, _, _, _, _, _, rfl, A142, c143, A145, c146, A148, c149, A151, c152, A154, c155, F.only [1, 5, 6, 7, 8, 9, 10, 11, 12, 13] rfl, H⟩
     ·rintro a w ⟨x65, x66, x67, x68, x71, x74, x77, x80, rfl, A69, c70, A72, c73, A75, c76, A78, c79, A81, c82, F, H⟩
      try dsimp only at j_37 F H
      refine wp_region_lit ?_
      refine mv F rfl fun a F => ?_
      refine qw F (r_add (F.t 44 rfl) (F.ev (x := .const (.int .i64 1)) rfl)) fun a F => ?_
      refine as_ F rfl fun a F => ?_
      refine wpList_nil ?_
      try dsimp only at j_37
      obtain rfl := Option.some.inj j_37
      exact ⟨_, rfl, g57, A69, c70, A72, c73, A75, c76, A78, c79, A81, c82, F.only [1, 5, 6, 7, 8, 9, 10, 11, 12, 13] rfl, H.f2.f2.f2.f3⟩
    ·rw [if_neg c39] at j_37
     rw [decide_eq_false c39] at F
     refine wp_cond_false (F.ev rfl) ?_
     refine wp_exit ?_
     try dsimp only at j_37
     obtain rfl := Option.some.inj j_37
     obtain rfl := u_37 _ rfl
     repeat (with_reducible refine exT ?_)
     with_reducible refine exB ?_
     exact ⟨_, rfl, F.only [5] rfl, H.px5.px4.px3.px2.px1.px0.fx3.fx1.fx0⟩
   ·rintro a w ⟨x37, rfl, F, H⟩
    try dsimp only at h F H
    refine rg ?_
    refine mv F rfl fun a F => ?_
    refine as_ F rfl fun a F => ?_
    refine rgend ?_
    refine wp_ret ?_
    try dsimp only at h
    obtain rfl := Option.some.inj h
    exact RET _ _ (ret1 F rfl rfl ⟨_, rfl, rfl, H.fx0⟩)
end Go.Proofs.Ytpmkpiffbdcflaa
