/- What the functions compute. Printed by wip/gen. -/
import Derived.Test.YtpmkpiffbdcflaaGL
set_option linter.unusedVariables false
set_option linter.unusedSimpArgs false
namespace Go.Proofs.Ytpmkpiffbdcflaa
open Go Go.RowKit
def law18_StoreHolds_b0 (a1 : List law18_Op) : (store_Store × Bool × Bool × Int × disk_Disk) → Option (store_Store × Bool × Bool × Int × disk_Disk ⊕ ((store_Store × disk_Disk) ⊕ Bool))
 | (x14, x15, x16, x17, x18) => (((if x17 < (a1.length : Int) then some true else some false) : Option (Bool)).bind fun x23 => (if x23 = true then (if 0 ≤ x17 ∧ x17 < (a1.length : Int) then ((store_Store_Entries_f x14).bind fun x40 => ((store_Store_State_f x14).bind fun x44 => ((store_Store_Gen_f x14).bind fun x49 => ((law18_do_f x18 x14 ((a1.getD (x17 : Int).toNat (⟨0, [], [], [], 0, []⟩ : law18_Op)))).bind fun (x51, x52, x53) => (if ((a1.getD (x17 : Int).toNat (⟨0, [], [], [], 0, []⟩ : law18_Op)).What) = 7 then some (.inl (x51, false, false, IntKind.i64.wrap (x17 + 1), x53)) else (((if ((a1.getD (x17 : Int).toNat (⟨0, [], [], [], 0, []⟩ : law18_Op)).What) < 2 then some true else some ((decide (((a1.getD (x17 : Int).toNat (⟨0, [], [], [], 0, []⟩ : law18_Op)).What) > 7)))) : Option (Bool)).bind fun x57 => (((if ((a1.getD (x17 : Int).toNat (⟨0, [], [], [], 0, []⟩ : law18_Op)).What) ≠ 6 then (if x16 = true then some (x15, true, x57, decide (x52 ≠ 43)) else (if x15 = true then some (true, false, x57, false) else (if x57 = true then some (false, false, true, false) else some (false, false, false, decide (x52 ≠ 43))))) else some (x15, x16, x57, false)) : Option (Bool × Bool × Bool × Bool)).bind fun (x60, x61, x62, x63) => (if x63 = true then some (.inr (.inr false)) else (((if x52 ≠ 0 then ((store_Store_Gen_f x51).bind fun x73 => (if x73 ≠ x49 then some true else ((store_Store_State_f x51).bind fun x76 => (if x76 ≠ x44 then some true else ((store_Store_Entries_f x51).bind fun x82 => ((ref17_SameRows_f x82 x40).bind fun x86 => some (!x86))))))) else some false) : Option (Bool)).bind fun x70 => (if x70 = true then some (.inr (.inr false)) else (((if x62 = true then (if x52 = 0 then ((store_Store_State_f x51).bind fun x95 => (if x95 ≠ ((a1.getD (x17 : Int).toNat (⟨0, [], [], [], 0, []⟩ : law18_Op)).State) then some (true, true) else ((store_Store_Entries_f x51).bind fun x101 => ((ref17_SameRows_f x101 ((a1.getD (x17 : Int).toNat (⟨0, [], [], [], 0, []⟩ : law18_Op)).Kept)).bind fun x105 => (if x105 = true then ((store_Store_Has_f x51).bind fun x108 => some (true, !x108)) else some (true, true)))))) else some (true, false)) else some (false, false)) : Option (Bool × Bool)).bind fun (x89, x90) => (if x90 = true then some (.inr (.inr false)) else (((if ((a1.getD (x17 : Int).toNat (⟨0, [], [], [], 0, []⟩ : law18_Op)).What) ≥ 2 then (if ((a1.getD (x17 : Int).toNat (⟨0, [], [], [], 0, []⟩ : law18_Op)).What) ≤ 4 then (if x52 = 0 then ((store_Store_Entries_f x51).bind fun x116 => (if (0 + x40.length) * 24 ≤ 140737488355328 then (if (x40.length + 1) * 24 ≤ 140737488355328 then ((ref17_SameRows_f x116 ((x40 ++ ([(a1.getD (x17 : Int).toNat (⟨0, [], [], [], 0, []⟩ : law18_Op)).Entry])))).bind fun x128 => some (!x128)) else none) else none)) else some false) else some false) else some false) : Option (Bool)).bind fun x111 => (if x111 = true then some (.inr (.inr false)) else (((if x60 = true then some (true, x89) else (if x89 = true then some (decide (x52 = 0), true) else some (false, false))) : Option (Bool × Bool)).bind fun (x213, x214) => (if x61 = true then some (.inl (x51, x213, true, IntKind.i64.wrap (x17 + 1), x53)) else (if x214 = true then (if x52 ≠ 0 then some (.inl (x51, x213, decide (x52 ≠ 1), IntKind.i64.wrap (x17 + 1), x53)) else some (.inl (x51, x213, false, IntKind.i64.wrap (x17 + 1), x53))) else some (.inl (x51, x213, false, IntKind.i64.wrap (x17 + 1), x53))))))))))))))))))) else none) else some (.inr (.inl (x14, x18)))))
def law18_StoreHolds_f (a0 : Int) (a1 : List law18_Op) : Option (Bool) :=
 ((law18_head_f).bind fun x1 => ((disk_New_f (IntKind.i64.wrap a0)).bind fun x3 => match x3 with | none => some false | some x5 => ((law18_Great_f a1).bind fun x7 => (if x7 = true then some x1 else ((store_Open_f x5).bind fun x10 => ((lp (law18_StoreHolds_b0 a1) (x10, false, false, 0, x5)).bind fun q => match q with | .inl (x20, x21) => (((if x1 = true then some true else some false) : Option (Bool)).bind fun x221 => some x221) | .inr r => some r))))))
set_option maxHeartbeats 4000000 in
set_option maxRecDepth 20000 in
theorem law18_StoreHolds_ok {w0 w : World} {ps : List PF} {fs : List SF} {a0 : Int} {a1 : List law18_Op} {A1_ : Option Addr} {c1_ : Nat} {r0 : Bool} (H : Hp w0 (rd k_law18_Op A1_ c1_ a1 :: ps) fs w) (h : law18_StoreHolds_f a0 a1 = some r0) (ha0 : 0 ≤ a0 ∧ a0 < 256) :
  Calls Try.prog 5 [.int .u8 a0, .slice A1_ a1.length c1_].toArray w fun e w' => ∃ v, e = .returned v ∧ v = .bool r0 ∧ Hp w0 ps fs w' := by
 refine enter [.int .u8 a0, .slice A1_ a1.length c1_] 194 Try.func5 fun Q a NP RET NRM F => ?_
 replace NP : ∀ c a w, ¬ Q (.panic c) a w := fun c a w h => by rcases NP c a w h with h | ⟨w, v, h, _⟩ <;> cases h
 unfold law18_StoreHolds_f at h
 refine rg ?_
 refine as_ F (v := .bool false) rfl fun a F => ?_
 refine rgend ?_
 refine rg ?_
 obtain ⟨x1, e2, h⟩ := Option.bind_eq_some_iff.1 h
 try dsimp only at h
 refine ls (call F Try.func10 (law18_head_ok (H) e2) rfl rfl fun v w hR a F => ?_)
 obtain ⟨rfl, H⟩ := hR
 refine as_ F rfl fun a F => ?_
 refine rgend ?_
 refine rg ?_
 refine mv F rfl fun a F => ?_
 refine qw F (r_ci (F.t 19 rfl) Try.underlying3 Try.underlying5) fun a F => ?_
 obtain ⟨x3, e4, h⟩ := Option.bind_eq_some_iff.1 h
 try dsimp only at h
 rcases x3 with _ | x5
 ·try dsimp only at h
  refine ls (call F Try.func11 (disk_New_ok (H) e4) rfl rfl fun v w hR a F => ?_)
  obtain ⟨rfl, H⟩ := hR
  refine as_ F rfl fun a F => ?_
  refine rgend ?_
  replace F := F.only [6, 5, 1] (l' := [(6, .pointer none), (5, .bool x1), (1, .slice A1_ a1.length c1_)]) rfl
  refine wp_seq ?_
  refine rg ?_
  refine mv F rfl fun a F => ?_
  refine qw F (r_peq0 (F.t 22 rfl) (F.ev (x := .const (.pointer none)) rfl) Try.underlying24) fun a F => ?_
  refine mv F rfl fun a F => ?_
  refine of_ F fun a F => ?_
  refine of_ F fun a F => ?_
  refine qw F (r_pickT (F.t 24 rfl) (F.ev (x := .const (.bool true)) rfl)) fun a F => ?_
  refine rgend ?_
  replace F := F.only [27, 6, 5, 1] (l' := [(27, .bool true), (6, .pointer none), (5, .bool x1), (1, .slice A1_ a1.length c1_)]) rfl
  refine wp_cond_true (F.ev rfl) ?_
  refine wp_seq ?_
  refine wp_region_lit ?_
  refine mv F rfl fun a F => ?_
  refine qw F (r_pne0 (F.t 28 rfl) (F.ev (x := .const (.pointer none)) rfl) Try.underlying24) fun a F => ?_
  refine mv F rfl fun a F => ?_
  refine of_ F fun a F => ?_
  refine qw F (r_pickF (F.t 30 rfl) (F.ev (x := .const (.bool false)) rfl)) fun a F => ?_
  refine as_ F rfl fun a F => ?_
  refine wpList_nil ?_
  replace F := F.only [4] (l' := [(4, .bool false)]) rfl
  refine wp_ret ?_
  try dsimp only at h
  obtain rfl := Option.some.inj h
  exact RET _ _ (ret1 F rfl rfl ⟨_, rfl, rfl, H.px0⟩)
 ·try dsimp only at h
  refine ls (call F Try.func11 (disk_New_ok (H) e4) rfl rfl fun v w hR a F => ?_)
  obtain ⟨g6, rfl, H⟩ := hR
  refine as_ F rfl fun a F => ?_
  refine rgend ?_
  replace F := F.only [6, 5, 1] (l' := [(6, .pointer (some ⟨g6, 0, none⟩)), (5, .bool x1), (1, .slice A1_ a1.length c1_)]) rfl
  refine wp_seq ?_
  refine rg ?_
  refine mv F rfl fun a F => ?_
  refine qw F (r_peq (F.t 22 rfl) (F.ev (x := .const (.pointer none)) rfl) Try.underlying24) fun a F => ?_
  refine mv F rfl fun a F => ?_
  refine mv F rfl fun a F => ?_
  obtain ⟨x7, e8, h⟩ := Option.bind_eq_some_iff.1 h
  try dsimp only at h
  refine ls (call F Try.func12 (law18_Great_ok (H.p0) e8) rfl rfl fun v w hR a F => ?_)
  obtain ⟨rfl, H⟩ := hR
  refine qw F (r_pickF (F.t 24 rfl) (F.t 26 rfl)) fun a F => ?_
  refine rgend ?_
  replace F := F.only [27, 6, 5, 1] (l' := [(27, .bool x7), (6, .pointer (some ⟨g6, 0, none⟩)), (5, .bool x1), (1, .slice A1_ a1.length c1_)]) rfl
  by_cases c9 : x7 = true
  ·rw [if_pos c9] at h
   rw [c9] at F
   refine wp_cond_true (F.ev rfl) ?_
   refine wp_seq ?_
   refine wp_region_lit ?_
   refine mv F rfl fun a F => ?_
   refine qw F (r_pne (F.t 28 rfl) (F.ev (x := .const (.pointer none)) rfl) Try.underlying24) fun a F => ?_
   refine mv F rfl fun a F => ?_
   refine mv F rfl fun a F => ?_
   refine qw F (r_pickT (F.t 30 rfl) (F.t 31 rfl)) fun a F => ?_
   refine as_ F rfl fun a F => ?_
   refine wpList_nil ?_
   replace F := F.only [4] (l' := [(4, .bool x1)]) rfl
   refine wp_ret ?_
   try dsimp only at h
   obtain rfl := Option.some.inj h
   exact RET _ _ (ret1 F rfl rfl ⟨_, rfl, rfl, H.px0.fx0⟩)
  ·rw [if_neg c9] at h
   rw [Bool.eq_false_iff.2 c9] at F
   refine wp_cond_false (F.ev rfl) ?_
   refine wp_skip ?_
   refine rg ?_
   refine mv F rfl fun a F => ?_
   obtain ⟨x10, e11, h⟩ := Option.bind_eq_some_iff.1 h
   try dsimp only at h
   refine ls (call F Try.func13 (store_Open_ok (H) e11) rfl rfl fun v w hR a F => ?_)
   obtain ⟨g12, rfl, H⟩ := hR
   refine as_ F rfl fun a F => ?_
   refine rgend ?_
   refine rg ?_
   refine as_ F (v := .bool false) rfl fun a F => ?_
   refine rgend ?_
   refine rg ?_
   refine as_ F (v := .bool false) rfl fun a F => ?_
   refine rgend ?_
   refine wp_seq ?_
   refine rg ?_
   refine as_ F (v := .int .i64 0) rfl fun a F => ?_
   refine rgend ?_
   obtain ⟨o_21, k_21, h⟩ := Option.bind_eq_some_iff.1 h
   refine cut (fun a w => ∃ (x20 : store_Store) (x21 : disk_Disk), Sum.inl (x20, x21) = o_21 ∧ ∃ (g19 : Nat), Fr 194 [] [(5, .bool x1), (7, .pointer (some ⟨g19, 0, none⟩))] a ∧ Hp w0 ps (obj_store_Store g19 g6 x20 :: obj_disk_Disk g6 x21 :: fs) w) (wp_block ?_) ?_
   ·refine wloop (law18_StoreHolds_b0 a1) (fun (s : store_Store × Bool × Bool × Int × disk_Disk) a w => ∃ (g13 : Nat), Fr 194 [] [(1, .slice A1_ a1.length c1_), (5, .bool x1), (6, .pointer (some ⟨g6, 0, none⟩)), (7, .pointer (some ⟨g13, 0, none⟩)), (8, .bool s.2.1), (9, .bool s.2.2.1), (10, .int .i64 s.2.2.2.1)] a ∧ Hp w0 (rd k_law18_Op A1_ c1_ a1 :: ps) (obj_store_Store g13 g6 s.1 :: obj_disk_Disk g6 s.2.2.2.2 :: fs) w) k_21 ⟨g12, F.only [1, 5, 6, 7, 8, 9, 10] rfl, H⟩ ?_
    rintro ⟨x14, x15, x16, x17, x18⟩ a w q_21 j_21 u_21 ⟨g13, F, H⟩
    unfold law18_StoreHolds_b0 at j_21
    try dsimp only at j_21 F H
    refine wp_seq ?_
    refine wp_seq ?_
    obtain ⟨o_23, k_23, j_21⟩ := Option.bind_eq_some_iff.1 j_21
    refine cut (fun a w => ∃ (x23 : Bool), x23 = o_23 ∧ Fr 194 [] [(1, .slice A1_ a1.length c1_), (5, .bool x1), (6, .pointer (some ⟨g6, 0, none⟩)), (7, .pointer (some ⟨g13, 0, none⟩)), (8, .bool x15), (9, .bool x16), (10, .int .i64 x17), (42, .bool x23)] a ∧ Hp w0 (rd k_law18_Op A1_ c1_ a1 :: ps) (obj_store_Store g13 g6 x14 :: obj_disk_Disk g6 x18 :: fs) w) ?_ ?_
    ·skip
     refine wp_region_lit ?_
     refine mv F rfl fun a F => ?_
     refine mv F rfl fun a F => ?_
     refine qw F (r_len (F.t 36 rfl) Try.underlying22) fun a F => ?_
     refine qw F (r_lt (F.t 35 rfl) (F.t 37 rfl)) fun a F => ?_
     refine mv F rfl fun a F => ?_
     by_cases c25 : x17 < (a1.length : Int)
     ·rw [if_pos c25] at k_23
      rw [decide_eq_true c25] at F
      refine mv F rfl fun a F => ?_
      refine qw F (r_pne (F.t 40 rfl) (F.ev (x := .const (.pointer none)) rfl) Try.underlying27) fun a F => ?_
      refine qw F (r_pickT (F.t 39 rfl) (F.t 41 rfl)) fun a F => ?_
      refine wpList_nil ?_
      replace F := F.only [42, 1, 5, 6, 7, 8, 9, 10] (l' := [(42, .bool true), (1, .slice A1_ a1.length c1_), (5, .bool x1), (6, .pointer (some ⟨g6, 0, none⟩)), (7, .pointer (some ⟨g13, 0, none⟩)), (8, .bool x15), (9, .bool x16), (10, .int .i64 x17)]) rfl
      try dsimp only at k_23
      obtain rfl := Option.some.inj k_23
      exact ⟨_, rfl, F.only [1, 5, 6, 7, 8, 9, 10, 42] rfl, H⟩
     ·rw [if_neg c25] at k_23
      rw [decide_eq_false c25] at F
      refine of_ F fun a F => ?_
      refine of_ F fun a F => ?_
      refine qw F (r_pickF (F.t 39 rfl) (F.ev (x := .const (.bool false)) rfl)) fun a F => ?_
      refine wpList_nil ?_
      replace F := F.only [42, 1, 5, 6, 7, 8, 9, 10] (l' := [(42, .bool false), (1, .slice A1_ a1.length c1_), (5, .bool x1), (6, .pointer (some ⟨g6, 0, none⟩)), (7, .pointer (some ⟨g13, 0, none⟩)), (8, .bool x15), (9, .bool x16), (10, .int .i64 x17)]) rfl
      try dsimp only at k_23
      obtain rfl := Option.some.inj k_23
      exact ⟨_, rfl, F.only [1, 5, 6, 7, 8, 9, 10, 42] rfl, H⟩
    ·rintro a w ⟨x23, rfl, F, H⟩
     try dsimp only at j_21 F H
     by_cases c26 : x23 = true
     ·rw [if_pos c26] at j_21
      rw [c26] at F
      refine wp_cond_true (F.ev rfl) ?_
      refine wp_skip ?_
      refine wp_seq ?_
      refine wp_block ?_
      refine rg ?_
      refine mv F rfl fun a F => ?_
      refine mv F rfl fun a F => ?_
      obtain ⟨c27, j_21⟩ := guardO j_21
      obtain ⟨g28, o29, s30, hr, H⟩ := H.ix (⟨0, [], [], [], 0, []⟩ : law18_Op) 0 rfl (F.t 45 rfl) (F.t 46 rfl) Try.underlying22 sz35 (by decide) c27.1 c27.2
      obtain ⟨A31, c32, A33, c34, A35, c36, A37, c38, rfl, H⟩ := H.open_law18_Op 1 rfl
      refine qw F (hr _ _ _ _ _ _) fun a F => ?_
      refine qw F (r_ldA (F.t 47 rfl) (H.range 4 rfl) agg35 rfl) fun a F => ?_
      refine ls (lal F H ti35 (cs := [.int .i64 0, .slice none 0 0, .slice none 0 0, .slice none 0 0, .int .i64 0, .slice none 0 0]) rfl fun g39 w a H F => ?_)
      obtain ⟨_, hr, H⟩ := Hp.store (t := 35) (o := 0) (n := 6) (vs := [.int .i64 ((a1.getD (x17 : Int).toNat (⟨0, [], [], [], 0, []⟩ : law18_Op)).What), .slice A31 ((a1.getD (x17 : Int).toNat (⟨0, [], [], [], 0, []⟩ : law18_Op)).State).length c32, .slice A33 ((a1.getD (x17 : Int).toNat (⟨0, [], [], [], 0, []⟩ : law18_Op)).Kept).length c34, .slice A35 ((a1.getD (x17 : Int).toNat (⟨0, [], [], [], 0, []⟩ : law18_Op)).Entry).length c36, .int .i64 ((a1.getD (x17 : Int).toNat (⟨0, [], [], [], 0, []⟩ : law18_Op)).N), .slice A37 ((a1.getD (x17 : Int).toNat (⟨0, [], [], [], 0, []⟩ : law18_Op)).Keep).length c38]) (cs' := [.int .i64 ((a1.getD (x17 : Int).toNat (⟨0, [], [], [], 0, []⟩ : law18_Op)).What), .slice A31 ((a1.getD (x17 : Int).toNat (⟨0, [], [], [], 0, []⟩ : law18_Op)).State).length c32, .slice A33 ((a1.getD (x17 : Int).toNat (⟨0, [], [], [], 0, []⟩ : law18_Op)).Kept).length c34, .slice A35 ((a1.getD (x17 : Int).toNat (⟨0, [], [], [], 0, []⟩ : law18_Op)).Entry).length c36, .int .i64 ((a1.getD (x17 : Int).toNat (⟨0, [], [], [], 0, []⟩ : law18_Op)).N), .slice A37 ((a1.getD (x17 : Int).toNat (⟨0, [], [], [], 0, []⟩ : law18_Op)).Keep).length c38]) (H) (F.t 11 rfl) (F.t 48 rfl) rfl sz35 rfl (Nat.le_of_ble_eq_true rfl) rfl rfl
      refine ls (qn F (.inl rfl) (hr _ _ _ _) fun a F => ?_)
      refine rgend ?_
      replace F := F.only [11, 1, 5, 6, 7, 8, 9, 10] (l' := [(11, .pointer (some ⟨g39, 0, none⟩)), (1, .slice A1_ a1.length c1_), (5, .bool x1), (6, .pointer (some ⟨g6, 0, none⟩)), (7, .pointer (some ⟨g13, 0, none⟩)), (8, .bool x15), (9, .bool x16), (10, .int .i64 x17)]) rfl
      refine rg ?_
      refine mv F rfl fun a F => ?_
      obtain ⟨x40, e41, j_21⟩ := Option.bind_eq_some_iff.1 j_21
      try dsimp only at j_21
      refine ls (call F Try.func15 (store_Store_Entries_ok (H.f2.f1.f2) e41) rfl rfl fun v w hR a F => ?_)
      obtain ⟨A42, c43, rfl, H⟩ := hR
      refine as_ F rfl fun a F => ?_
      refine rgend ?_
      refine rg ?_
      refine mv F rfl fun a F => ?_
      obtain ⟨x44, e45, j_21⟩ := Option.bind_eq_some_iff.1 j_21
      try dsimp only at j_21
      refine ls (call F Try.func17 (store_Store_State_ok (H.f3.f3.f2.f3) e45) rfl rfl fun v w hR a F => ?_)
      obtain ⟨A46, c47, rfl, H⟩ := hR
      replace H := (H).freeze
      have hb48 := H.bytes 0 rfl
      refine qw F (H.str 0 rfl (F.t 52 rfl) Try.underlying29 Try.underlying5 Try.underlying9) fun a F => ?_
      refine as_ F rfl fun a F => ?_
      refine rgend ?_
      replace F := F.only [13, 12, 11, 1, 5, 6, 7, 8, 9, 10] (l' := [(13, .string (strOf x44)), (12, .slice A42 x40.length c43), (11, .pointer (some ⟨g39, 0, none⟩)), (1, .slice A1_ a1.length c1_), (5, .bool x1), (6, .pointer (some ⟨g6, 0, none⟩)), (7, .pointer (some ⟨g13, 0, none⟩)), (8, .bool x15), (9, .bool x16), (10, .int .i64 x17)]) rfl
      refine rg ?_
      refine mv F rfl fun a F => ?_
      obtain ⟨x49, e50, j_21⟩ := Option.bind_eq_some_iff.1 j_21
      try dsimp only at j_21
      refine ls (call F Try.func20 (store_Store_Gen_ok (H) e50) rfl rfl fun v w hR a F => ?_)
      obtain ⟨rfl, H⟩ := hR
      refine as_ F rfl fun a F => ?_
      refine rgend ?_
      refine rg ?_
      refine mv F rfl fun a F => ?_
      refine mv F rfl fun a F => ?_
      refine qw F (r_ldA (F.t 11 rfl) (cel_range (o := 0) (n := 6) (vs := [.int .i64 ((a1.getD (x17 : Int).toNat (⟨0, [], [], [], 0, []⟩ : law18_Op)).What), .slice A31 ((a1.getD (x17 : Int).toNat (⟨0, [], [], [], 0, []⟩ : law18_Op)).State).length c32, .slice A33 ((a1.getD (x17 : Int).toNat (⟨0, [], [], [], 0, []⟩ : law18_Op)).Kept).length c34, .slice A35 ((a1.getD (x17 : Int).toNat (⟨0, [], [], [], 0, []⟩ : law18_Op)).Entry).length c36, .int .i64 ((a1.getD (x17 : Int).toNat (⟨0, [], [], [], 0, []⟩ : law18_Op)).N), .slice A37 ((a1.getD (x17 : Int).toNat (⟨0, [], [], [], 0, []⟩ : law18_Op)).Keep).length c38]) (H.cell 2 rfl) rfl) agg35 rfl) fun a F => ?_
      obtain ⟨⟨x51, x52, x53⟩, e54, j_21⟩ := Option.bind_eq_some_iff.1 j_21
      try dsimp only at j_21
      refine ls (call F Try.func14 (law18_do_ok (a2 := (a1.getD (x17 : Int).toNat (⟨0, [], [], [], 0, []⟩ : law18_Op))) (H.p4.p4.p4.p4.f2.f2.f2.f3) e54) rfl rfl fun v w hR a F => ?_)
      obtain ⟨g55, rfl, H⟩ := hR
      refine mv F rfl fun a F => ?_
      refine qw F (r_ex (F.t 56 rfl) rfl) fun a F => ?_
      refine qw F (r_ex (F.t 56 rfl) rfl) fun a F => ?_
      refine as_ F rfl fun a F => ?_
      refine as_ F rfl fun a F => ?_
      refine rgend ?_
      replace F := F.only [16, 15, 14, 13, 12, 11, 1, 5, 6, 8, 9, 10] (l' := [(16, .int .i64 x52), (15, .pointer (some ⟨g55, 0, none⟩)), (14, .int .i64 x49), (13, .string (strOf x44)), (12, .slice A42 x40.length c43), (11, .pointer (some ⟨g39, 0, none⟩)), (1, .slice A1_ a1.length c1_), (5, .bool x1), (6, .pointer (some ⟨g6, 0, none⟩)), (8, .bool x15), (9, .bool x16), (10, .int .i64 x17)]) rfl
      refine wp_seq ?_
      refine rg ?_
      refine mv F rfl fun a F => ?_
      refine qw F (r_peq (F.t 63 rfl) (F.ev (x := .const (.pointer none)) rfl) Try.underlying27) fun a F => ?_
      refine rgend ?_
      refine wp_cond_false (F.ev rfl) ?_
      refine wp_skip ?_
      refine rg ?_
      refine mv F rfl fun a F => ?_
      refine as_ F rfl fun a F => ?_
      refine rgend ?_
      replace F := F.only [7, 16, 14, 13, 12, 11, 1, 5, 6, 8, 9, 10] (l' := [(7, .pointer (some ⟨g55, 0, none⟩)), (16, .int .i64 x52), (14, .int .i64 x49), (13, .string (strOf x44)), (12, .slice A42 x40.length c43), (11, .pointer (some ⟨g39, 0, none⟩)), (1, .slice A1_ a1.length c1_), (5, .bool x1), (6, .pointer (some ⟨g6, 0, none⟩)), (8, .bool x15), (9, .bool x16), (10, .int .i64 x17)]) rfl
      refine wp_seq ?_
      refine rg ?_
      refine qw F (r_fa (off := 0) (F.t 11 rfl) fa35_0) fun a F => ?_
      refine qw F (r_ld (F.t 66 rfl) (cel_cell (o := 0) (H.cell 3 rfl) rfl) one3) fun a F => ?_
      refine qw F (r_eq (F.t 67 rfl) (F.ev (x := .const (.int .i64 7)) rfl)) fun a F => ?_
      refine rgend ?_
      by_cases c56 : ((a1.getD (x17 : Int).toNat (⟨0, [], [], [], 0, []⟩ : law18_Op)).What) = 7
      ·rw [if_pos c56] at j_21
       rw [decide_eq_true c56] at F
       refine wp_cond_true (F.ev rfl) ?_
       refine rg ?_
       refine as_ F (v := .bool false) rfl fun a F => ?_
       refine rgend ?_
       replace F := F.only [8, 7, 1, 5, 6, 10] (l' := [(8, .bool false), (7, .pointer (some ⟨g55, 0, none⟩)), (1, .slice A1_ a1.length c1_), (5, .bool x1), (6, .pointer (some ⟨g6, 0, none⟩)), (10, .int .i64 x17)]) rfl
       refine rg ?_
       refine as_ F (v := .bool false) rfl fun a F => ?_
       refine rgend ?_
       refine wp_exit ?_
       repeat (with_reducible refine exT ?_)
       with_reducible refine exB ?_
       refine wp_region_lit ?_
       refine mv F rfl fun a F => ?_
       refine qw F (r_add (F.t 43 rfl) (F.ev (x := .const (.int .i64 1)) rfl)) fun a F => ?_
       refine as_ F rfl fun a F => ?_
       refine wpList_nil ?_
       try dsimp only at j_21
       obtain rfl := Option.some.inj j_21
       exact ⟨_, rfl, g55, F.only [1, 5, 6, 7, 8, 9, 10] rfl, H.px6.px5.px4.px3.px2.px1.px0.fx3.fx2⟩
      ·rw [if_neg c56] at j_21
       rw [decide_eq_false c56] at F
       refine wp_cond_false (F.ev rfl) ?_
       refine wp_skip ?_
       refine wp_seq ?_
       obtain ⟨o_57, k_57, j_21⟩ := Option.bind_eq_some_iff.1 j_21
       refine cut (fun a w => ∃ (x57 : Bool), x57 = o_57 ∧ Fr 194 [] [(1, .slice A1_ a1.length c1_), (5, .bool x1), (6, .pointer (some ⟨g6, 0, none⟩)), (7, .pointer (some ⟨g55, 0, none⟩)), (8, .bool x15), (9, .bool x16), (10, .int .i64 x17), (11, .pointer (some ⟨g39, 0, none⟩)), (12, .slice A42 x40.length c43), (13, .string (strOf x44)), (14, .int .i64 x49), (16, .int .i64 x52), (17, .bool x57)] a ∧ Hp w0 (rd k_law18_Op A1_ c1_ a1 :: rd kByte A31 c32 ((a1.getD (x17 : Int).toNat (⟨0, [], [], [], 0, []⟩ : law18_Op)).State) :: rd (kSlice kByte) A33 c34 ((a1.getD (x17 : Int).toNat (⟨0, [], [], [], 0, []⟩ : law18_Op)).Kept) :: rd kByte A35 c36 ((a1.getD (x17 : Int).toNat (⟨0, [], [], [], 0, []⟩ : law18_Op)).Entry) :: rd kBool A37 c38 ((a1.getD (x17 : Int).toNat (⟨0, [], [], [], 0, []⟩ : law18_Op)).Keep) :: ps) (own (kSlice kByte) 29 A42 c43 x40 :: obj_store_Store g55 g6 x51 :: obj_disk_Disk g6 x53 :: cel g39 [.int .i64 ((a1.getD (x17 : Int).toNat (⟨0, [], [], [], 0, []⟩ : law18_Op)).What), .slice A31 ((a1.getD (x17 : Int).toNat (⟨0, [], [], [], 0, []⟩ : law18_Op)).State).length c32, .slice A33 ((a1.getD (x17 : Int).toNat (⟨0, [], [], [], 0, []⟩ : law18_Op)).Kept).length c34, .slice A35 ((a1.getD (x17 : Int).toNat (⟨0, [], [], [], 0, []⟩ : law18_Op)).Entry).length c36, .int .i64 ((a1.getD (x17 : Int).toNat (⟨0, [], [], [], 0, []⟩ : law18_Op)).N), .slice A37 ((a1.getD (x17 : Int).toNat (⟨0, [], [], [], 0, []⟩ : law18_Op)).Keep).length c38] 35 :: fs) w) ?_ ?_
       ·skip
        refine wp_region_lit ?_
        refine qw F (r_fa (off := 0) (F.t 11 rfl) fa35_0) fun a F => ?_
        refine qw F (r_ld (F.t 69 rfl) (cel_cell (o := 0) (H.cell 3 rfl) rfl) one3) fun a F => ?_
        refine qw F (r_lt (F.t 70 rfl) (F.ev (x := .const (.int .i64 2)) rfl)) fun a F => ?_
        refine mv F rfl fun a F => ?_
        by_cases c59 : ((a1.getD (x17 : Int).toNat (⟨0, [], [], [], 0, []⟩ : law18_Op)).What) < 2
        ·rw [if_pos c59] at k_57
         rw [decide_eq_true c59] at F
         refine of_ F fun a F => ?_
         refine of_ F fun a F => ?_
         refine of_ F fun a F => ?_
         refine qw F (r_pickT (F.t 72 rfl) (F.ev (x := .const (.bool true)) rfl)) fun a F => ?_
         refine as_ F rfl fun a F => ?_
         refine wpList_nil ?_
         replace F := F.only [17, 7, 16, 14, 13, 12, 11, 1, 5, 6, 8, 9, 10] (l' := [(17, .bool true), (7, .pointer (some ⟨g55, 0, none⟩)), (16, .int .i64 x52), (14, .int .i64 x49), (13, .string (strOf x44)), (12, .slice A42 x40.length c43), (11, .pointer (some ⟨g39, 0, none⟩)), (1, .slice A1_ a1.length c1_), (5, .bool x1), (6, .pointer (some ⟨g6, 0, none⟩)), (8, .bool x15), (9, .bool x16), (10, .int .i64 x17)]) rfl
         try dsimp only at k_57
         obtain rfl := Option.some.inj k_57
         exact ⟨_, rfl, F.only [1, 5, 6, 7, 8, 9, 10, 11, 12, 13, 14, 16, 17] rfl, H.p4.p4.p4.p4.p11.px5.px5.px5.px5.px5.px5.px5.px5.f3.f2.f2.f3⟩
        ·rw [if_neg c59] at k_57
         rw [decide_eq_false c59] at F
         refine qw F (r_fa (off := 0) (F.t 11 rfl) fa35_0) fun a F => ?_
         refine qw F (r_ld (F.t 73 rfl) (cel_cell (o := 0) (H.cell 3 rfl) rfl) one3) fun a F => ?_
         refine qw F (r_gt (F.t 74 rfl) (F.ev (x := .const (.int .i64 7)) rfl)) fun a F => ?_
         refine qw F (r_pickF (F.t 72 rfl) (F.t 75 rfl)) fun a F => ?_
         refine as_ F rfl fun a F => ?_
         refine wpList_nil ?_
         replace F := F.only [17, 7, 16, 14, 13, 12, 11, 1, 5, 6, 8, 9, 10] (l' := [(17, .bool (decide (((a1.getD (x17 : Int).toNat (⟨0, [], [], [], 0, []⟩ : law18_Op)).What) > 7))), (7, .pointer (some ⟨g55, 0, none⟩)), (16, .int .i64 x52), (14, .int .i64 x49), (13, .string (strOf x44)), (12, .slice A42 x40.length c43), (11, .pointer (some ⟨g39, 0, none⟩)), (1, .slice A1_ a1.length c1_), (5, .bool x1), (6, .pointer (some ⟨g6, 0, none⟩)), (8, .bool x15), (9, .bool x16), (10, .int .i64 x17)]) rfl
         try dsimp only at k_57
         obtain rfl := Option.some.inj k_57
         exact ⟨_, rfl, F.only [1, 5, 6, 7, 8, 9, 10, 11, 12, 13, 14, 16, 17] rfl, H.p4.p4.p4.p4.p11.px5.px5.px5.px5.px5.px5.px5.px5.f3.f2.f2.f3⟩
       ·rintro a w ⟨x57, rfl, F, H⟩
        try dsimp only at j_21 F H
        refine wp_seq ?_
        refine wp_seq ?_
        obtain ⟨o_63, k_63, j_21⟩ := Option.bind_eq_some_iff.1 j_21
        refine cut (fun a w => ∃ (x60 : Bool) (x61 : Bool) (x62 : Bool) (x63 : Bool), (x60, x61, x62, x63) = o_63 ∧ Fr 194 [] [(1, .slice A1_ a1.length c1_), (5, .bool x1), (6, .pointer (some ⟨g6, 0, none⟩)), (7, .pointer (some ⟨g55, 0, none⟩)), (8, .bool x60), (9, .bool x61), (10, .int .i64 x17), (11, .pointer (some ⟨g39, 0, none⟩)), (12, .slice A42 x40.length c43), (13, .string (strOf x44)), (14, .int .i64 x49), (16, .int .i64 x52), (17, .bool x62), (94, .bool x63)] a ∧ Hp w0 (rd k_law18_Op A1_ c1_ a1 :: rd kByte A31 c32 ((a1.getD (x17 : Int).toNat (⟨0, [], [], [], 0, []⟩ : law18_Op)).State) :: rd (kSlice kByte) A33 c34 ((a1.getD (x17 : Int).toNat (⟨0, [], [], [], 0, []⟩ : law18_Op)).Kept) :: rd kByte A35 c36 ((a1.getD (x17 : Int).toNat (⟨0, [], [], [], 0, []⟩ : law18_Op)).Entry) :: rd kBool A37 c38 ((a1.getD (x17 : Int).toNat (⟨0, [], [], [], 0, []⟩ : law18_Op)).Keep) :: ps) (own (kSlice kByte) 29 A42 c43 x40 :: obj_store_Store g55 g6 x51 :: obj_disk_Disk g6 x53 :: cel g39 [.int .i64 ((a1.getD (x17 : Int).toNat (⟨0, [], [], [], 0, []⟩ : law18_Op)).What), .slice A31 ((a1.getD (x17 : Int).toNat (⟨0, [], [], [], 0, []⟩ : law18_Op)).State).length c32, .slice A33 ((a1.getD (x17 : Int).toNat (⟨0, [], [], [], 0, []⟩ : law18_Op)).Kept).length c34, .slice A35 ((a1.getD (x17 : Int).toNat (⟨0, [], [], [], 0, []⟩ : law18_Op)).Entry).length c36, .int .i64 ((a1.getD (x17 : Int).toNat (⟨0, [], [], [], 0, []⟩ : law18_Op)).N), .slice A37 ((a1.getD (x17 : Int).toNat (⟨0, [], [], [], 0, []⟩ : law18_Op)).Keep).length c38] 35 :: fs) w) ?_ ?_
        ·skip
         refine wp_region_lit ?_
         refine qw F (r_fa (off := 0) (F.t 11 rfl) fa35_0) fun a F => ?_
         refine qw F (r_ld (F.t 77 rfl) (cel_cell (o := 0) (H.cell 3 rfl) rfl) one3) fun a F => ?_
         refine qw F (r_ne (F.t 78 rfl) (F.ev (x := .const (.int .i64 6)) rfl)) fun a F => ?_
         refine mv F rfl fun a F => ?_
         by_cases c65 : ((a1.getD (x17 : Int).toNat (⟨0, [], [], [], 0, []⟩ : law18_Op)).What) ≠ 6
         ·rw [if_pos c65] at k_63
          rw [decide_eq_true c65] at F
          refine mv F rfl fun a F => ?_
          refine mv F rfl fun a F => ?_
          by_cases c66 : x16 = true
          ·rw [if_pos c66] at k_63
           rw [c66] at F
           refine of_ F fun a F => ?_
           refine of_ F fun a F => ?_
           refine of_ F fun a F => ?_
           refine of_ F fun a F => ?_
           refine of_ F fun a F => ?_
           refine of_ F fun a F => ?_
           refine qw F (r_pickT (F.t 82 rfl) (F.ev (x := .const (.bool true)) rfl)) fun a F => ?_
           refine qw F (r_pickT (F.t 80 rfl) (F.t 89 rfl)) fun a F => ?_
           refine mv F rfl fun a F => ?_
           refine mv F rfl fun a F => ?_
           refine qw F (r_ne (F.t 92 rfl) (F.ev (x := .const (.int .i64 43)) rfl)) fun a F => ?_
           refine qw F (r_pickT (F.t 91 rfl) (F.t 93 rfl)) fun a F => ?_
           refine wpList_nil ?_
           replace F := F.only [94, 1, 5, 6, 7, 8, 9, 10, 11, 12, 13, 14, 16, 17] (l' := [(94, .bool (decide (x52 ≠ 43))), (1, .slice A1_ a1.length c1_), (5, .bool x1), (6, .pointer (some ⟨g6, 0, none⟩)), (7, .pointer (some ⟨g55, 0, none⟩)), (8, .bool x15), (9, .bool true), (10, .int .i64 x17), (11, .pointer (some ⟨g39, 0, none⟩)), (12, .slice A42 x40.length c43), (13, .string (strOf x44)), (14, .int .i64 x49), (16, .int .i64 x52), (17, .bool x57)]) rfl
           try dsimp only at k_63
           obtain rfl := Option.some.inj k_63
           exact ⟨_, _, _, _, rfl, F.only [1, 5, 6, 7, 8, 9, 10, 11, 12, 13, 14, 16, 17, 94] rfl, H⟩
          ·rw [if_neg c66] at k_63
           rw [Bool.eq_false_iff.2 c66] at F
           refine mv F rfl fun a F => ?_
           refine qw F (r_not (F.t 83 rfl)) fun a F => ?_
           refine mv F rfl fun a F => ?_
           by_cases c67 : x15 = true
           ·rw [if_pos c67] at k_63
            rw [c67] at F
            refine of_ F fun a F => ?_
            refine of_ F fun a F => ?_
            refine qw F (r_pickF (F.t 85 rfl) (F.ev (x := .const (.bool false)) rfl)) fun a F => ?_
            refine qw F (r_pickF (F.t 82 rfl) (F.t 88 rfl)) fun a F => ?_
            refine qw F (r_pickT (F.t 80 rfl) (F.t 89 rfl)) fun a F => ?_
            refine mv F rfl fun a F => ?_
            refine of_ F fun a F => ?_
            refine of_ F fun a F => ?_
            refine qw F (r_pickF (F.t 91 rfl) (F.ev (x := .const (.bool false)) rfl)) fun a F => ?_
            refine wpList_nil ?_
            replace F := F.only [94, 1, 5, 6, 7, 8, 9, 10, 11, 12, 13, 14, 16, 17] (l' := [(94, .bool false), (1, .slice A1_ a1.length c1_), (5, .bool x1), (6, .pointer (some ⟨g6, 0, none⟩)), (7, .pointer (some ⟨g55, 0, none⟩)), (8, .bool true), (9, .bool false), (10, .int .i64 x17), (11, .pointer (some ⟨g39, 0, none⟩)), (12, .slice A42 x40.length c43), (13, .string (strOf x44)), (14, .int .i64 x49), (16, .int .i64 x52), (17, .bool x57)]) rfl
            try dsimp only at k_63
            obtain rfl := Option.some.inj k_63
            exact ⟨_, _, _, _, rfl, F.only [1, 5, 6, 7, 8, 9, 10, 11, 12, 13, 14, 16, 17, 94] rfl, H⟩
           ·rw [if_neg c67] at k_63
            rw [Bool.eq_false_iff.2 c67] at F
            refine mv F rfl fun a F => ?_
            refine qw F (r_not (F.t 86 rfl)) fun a F => ?_
            refine qw F (r_pickT (F.t 85 rfl) (F.t 87 rfl)) fun a F => ?_
            refine qw F (r_pickF (F.t 82 rfl) (F.t 88 rfl)) fun a F => ?_
            refine qw F (r_pickT (F.t 80 rfl) (F.t 89 rfl)) fun a F => ?_
            refine mv F rfl fun a F => ?_
            by_cases c68 : x57 = true
            ·rw [if_pos c68] at k_63
             rw [c68] at F
             refine of_ F fun a F => ?_
             refine of_ F fun a F => ?_
             refine qw F (r_pickF (F.t 91 rfl) (F.ev (x := .const (.bool false)) rfl)) fun a F => ?_
             refine wpList_nil ?_
             replace F := F.only [94, 1, 5, 6, 7, 8, 9, 10, 11, 12, 13, 14, 16, 17] (l' := [(94, .bool false), (1, .slice A1_ a1.length c1_), (5, .bool x1), (6, .pointer (some ⟨g6, 0, none⟩)), (7, .pointer (some ⟨g55, 0, none⟩)), (8, .bool false), (9, .bool false), (10, .int .i64 x17), (11, .pointer (some ⟨g39, 0, none⟩)), (12, .slice A42 x40.length c43), (13, .string (strOf x44)), (14, .int .i64 x49), (16, .int .i64 x52), (17, .bool true)]) rfl
             try dsimp only at k_63
             obtain rfl := Option.some.inj k_63
             exact ⟨_, _, _, _, rfl, F.only [1, 5, 6, 7, 8, 9, 10, 11, 12, 13, 14, 16, 17, 94] rfl, H⟩
            ·rw [if_neg c68] at k_63
             rw [Bool.eq_false_iff.2 c68] at F
             refine mv F rfl fun a F => ?_
             refine qw F (r_ne (F.t 92 rfl) (F.ev (x := .const (.int .i64 43)) rfl)) fun a F => ?_
             refine qw F (r_pickT (F.t 91 rfl) (F.t 93 rfl)) fun a F => ?_
             refine wpList_nil ?_
             replace F := F.only [94, 1, 5, 6, 7, 8, 9, 10, 11, 12, 13, 14, 16, 17] (l' := [(94, .bool (decide (x52 ≠ 43))), (1, .slice A1_ a1.length c1_), (5, .bool x1), (6, .pointer (some ⟨g6, 0, none⟩)), (7, .pointer (some ⟨g55, 0, none⟩)), (8, .bool false), (9, .bool false), (10, .int .i64 x17), (11, .pointer (some ⟨g39, 0, none⟩)), (12, .slice A42 x40.length c43), (13, .string (strOf x44)), (14, .int .i64 x49), (16, .int .i64 x52), (17, .bool false)]) rfl
             try dsimp only at k_63
             obtain rfl := Option.some.inj k_63
             exact ⟨_, _, _, _, rfl, F.only [1, 5, 6, 7, 8, 9, 10, 11, 12, 13, 14, 16, 17, 94] rfl, H⟩
         ·rw [if_neg c65] at k_63
          rw [decide_eq_false c65] at F
          refine of_ F fun a F => ?_
          refine of_ F fun a F => ?_
          refine of_ F fun a F => ?_
          refine of_ F fun a F => ?_
          refine of_ F fun a F => ?_
          refine of_ F fun a F => ?_
          refine of_ F fun a F => ?_
          refine of_ F fun a F => ?_
          refine of_ F fun a F => ?_
          refine qw F (r_pickF (F.t 80 rfl) (F.ev (x := .const (.bool false)) rfl)) fun a F => ?_
          refine mv F rfl fun a F => ?_
          refine of_ F fun a F => ?_
          refine of_ F fun a F => ?_
          refine qw F (r_pickF (F.t 91 rfl) (F.ev (x := .const (.bool false)) rfl)) fun a F => ?_
          refine wpList_nil ?_
          replace F := F.only [94, 1, 5, 6, 7, 8, 9, 10, 11, 12, 13, 14, 16, 17] (l' := [(94, .bool false), (1, .slice A1_ a1.length c1_), (5, .bool x1), (6, .pointer (some ⟨g6, 0, none⟩)), (7, .pointer (some ⟨g55, 0, none⟩)), (8, .bool x15), (9, .bool x16), (10, .int .i64 x17), (11, .pointer (some ⟨g39, 0, none⟩)), (12, .slice A42 x40.length c43), (13, .string (strOf x44)), (14, .int .i64 x49), (16, .int .i64 x52), (17, .bool x57)]) rfl
          try dsimp only at k_63
          obtain rfl := Option.some.inj k_63
          exact ⟨_, _, _, _, rfl, F.only [1, 5, 6, 7, 8, 9, 10, 11, 12, 13, 14, 16, 17, 94] rfl, H⟩
        ·rintro a w ⟨x60, x61, x62, x63, rfl, F, H⟩
         try dsimp only at j_21 F H
         by_cases c69 : x63 = true
         ·rw [if_pos c69] at j_21
          rw [c69] at F
          refine wp_cond_true (F.ev rfl) ?_
          refine rg ?_
          refine as_ F (v := .bool false) rfl fun a F => ?_
          refine rgend ?_
          replace F := F.only [4] (l' := [(4, .bool false)]) rfl
          refine wp_ret ?_
          try dsimp only at j_21
          obtain rfl := Option.some.inj j_21
          obtain rfl := u_21 _ rfl
          try dsimp only at h
          obtain rfl := Option.some.inj h
          exact RET _ _ (ret1 F rfl rfl ⟨_, rfl, rfl, H.px4.px3.px2.px1.px0.fx3.fx2.fx1.fx0⟩)
         ·rw [if_neg c69] at j_21
          rw [Bool.eq_false_iff.2 c69] at F
          refine wp_cond_false (F.ev rfl) ?_
          refine wp_skip ?_
          refine wp_seq ?_
          refine wp_seq ?_
          obtain ⟨o_70, k_70, j_21⟩ := Option.bind_eq_some_iff.1 j_21
          refine cut (fun a w => ∃ (x70 : Bool), x70 = o_70 ∧ Fr 194 [] [(1, .slice A1_ a1.length c1_), (5, .bool x1), (6, .pointer (some ⟨g6, 0, none⟩)), (7, .pointer (some ⟨g55, 0, none⟩)), (8, .bool x60), (9, .bool x61), (10, .int .i64 x17), (11, .pointer (some ⟨g39, 0, none⟩)), (12, .slice A42 x40.length c43), (16, .int .i64 x52), (17, .bool x62), (116, .bool x70)] a ∧ Hp w0 (rd k_law18_Op A1_ c1_ a1 :: rd (kSlice kByte) A42 c43 x40 :: rd kByte A31 c32 ((a1.getD (x17 : Int).toNat (⟨0, [], [], [], 0, []⟩ : law18_Op)).State) :: rd (kSlice kByte) A33 c34 ((a1.getD (x17 : Int).toNat (⟨0, [], [], [], 0, []⟩ : law18_Op)).Kept) :: rd kByte A35 c36 ((a1.getD (x17 : Int).toNat (⟨0, [], [], [], 0, []⟩ : law18_Op)).Entry) :: rd kBool A37 c38 ((a1.getD (x17 : Int).toNat (⟨0, [], [], [], 0, []⟩ : law18_Op)).Keep) :: ps) (obj_store_Store g55 g6 x51 :: obj_disk_Disk g6 x53 :: cel g39 [.int .i64 ((a1.getD (x17 : Int).toNat (⟨0, [], [], [], 0, []⟩ : law18_Op)).What), .slice A31 ((a1.getD (x17 : Int).toNat (⟨0, [], [], [], 0, []⟩ : law18_Op)).State).length c32, .slice A33 ((a1.getD (x17 : Int).toNat (⟨0, [], [], [], 0, []⟩ : law18_Op)).Kept).length c34, .slice A35 ((a1.getD (x17 : Int).toNat (⟨0, [], [], [], 0, []⟩ : law18_Op)).Entry).length c36, .int .i64 ((a1.getD (x17 : Int).toNat (⟨0, [], [], [], 0, []⟩ : law18_Op)).N), .slice A37 ((a1.getD (x17 : Int).toNat (⟨0, [], [], [], 0, []⟩ : law18_Op)).Keep).length c38] 35 :: fs) w) ?_ ?_
          ·skip
           refine wp_region_lit ?_
           refine mv F rfl fun a F => ?_
           refine qw F (r_ne (F.t 95 rfl) (F.ev (x := .const (.int .i64 0)) rfl)) fun a F => ?_
           refine mv F rfl fun a F => ?_
           by_cases c72 : x52 ≠ 0
           ·rw [if_pos c72] at k_70
            rw [decide_eq_true c72] at F
            refine mv F rfl fun a F => ?_
            obtain ⟨x73, e74, k_70⟩ := Option.bind_eq_some_iff.1 k_70
            try dsimp only at k_70
            refine ls (call F Try.func20 (store_Store_Gen_ok (H.f3.f3.f2.f3) e74) rfl rfl fun v w hR a F => ?_)
            obtain ⟨rfl, H⟩ := hR
            refine mv F rfl fun a F => ?_
            refine qw F (r_ne (F.t 99 rfl) (F.t 100 rfl)) fun a F => ?_
            refine mv F rfl fun a F => ?_
            by_cases c75 : x73 ≠ x49
            ·rw [if_pos c75] at k_70
             rw [decide_eq_true c75] at F
             refine of_ F fun a F => ?_
             refine of_ F fun a F => ?_
             refine of_ F fun a F => ?_
             refine of_ F fun a F => ?_
             refine of_ F fun a F => ?_
             refine qw F (r_pickT (F.t 102 rfl) (F.ev (x := .const (.bool true)) rfl)) fun a F => ?_
             refine mv F rfl fun a F => ?_
             refine of_ F fun a F => ?_
             refine of_ F fun a F => ?_
             refine of_ F fun a F => ?_
             refine of_ F fun a F => ?_
             refine of_ F fun a F => ?_
             refine qw F (r_pickT (F.t 109 rfl) (F.ev (x := .const (.bool true)) rfl)) fun a F => ?_
             refine qw F (r_pickT (F.t 97 rfl) (F.t 115 rfl)) fun a F => ?_
             refine wpList_nil ?_
             replace F := F.only [116, 1, 5, 6, 7, 8, 9, 10, 11, 12, 16, 17] (l' := [(116, .bool true), (1, .slice A1_ a1.length c1_), (5, .bool x1), (6, .pointer (some ⟨g6, 0, none⟩)), (7, .pointer (some ⟨g55, 0, none⟩)), (8, .bool x60), (9, .bool x61), (10, .int .i64 x17), (11, .pointer (some ⟨g39, 0, none⟩)), (12, .slice A42 x40.length c43), (16, .int .i64 x52), (17, .bool x62)]) rfl
             replace H := (H.f3.f3.f2.f3).freeze
             try dsimp only at k_70
             obtain rfl := Option.some.inj k_70
             exact ⟨_, rfl, F.only [1, 5, 6, 7, 8, 9, 10, 11, 12, 16, 17, 116] rfl, H.p5.p5.p5.p5.p4.p6.px6.px6.px6.px6.px6.px6⟩
            ·rw [if_neg c75] at k_70
             rw [decide_eq_false c75] at F
             refine mv F rfl fun a F => ?_
             obtain ⟨x76, e77, k_70⟩ := Option.bind_eq_some_iff.1 k_70
             try dsimp only at k_70
             refine ls (call F Try.func17 (store_Store_State_ok (H) e77) rfl rfl fun v w hR a F => ?_)
             obtain ⟨A78, c79, rfl, H⟩ := hR
             replace H := (H).freeze
             have hb80 := H.bytes 0 rfl
             refine qw F (H.str 0 rfl (F.t 104 rfl) Try.underlying29 Try.underlying5 Try.underlying9) fun a F => ?_
             refine mv F rfl fun a F => ?_
             refine qw F (r_sne (F.t 105 rfl) (F.t 106 rfl) hb80 hb48) fun a F => ?_
             refine qw F (r_pickF (F.t 102 rfl) (F.t 107 rfl)) fun a F => ?_
             refine mv F rfl fun a F => ?_
             by_cases c81 : x76 ≠ x44
             ·rw [if_pos c81] at k_70
              rw [decide_eq_true c81] at F
              refine of_ F fun a F => ?_
              refine of_ F fun a F => ?_
              refine of_ F fun a F => ?_
              refine of_ F fun a F => ?_
              refine of_ F fun a F => ?_
              refine qw F (r_pickT (F.t 109 rfl) (F.ev (x := .const (.bool true)) rfl)) fun a F => ?_
              refine qw F (r_pickT (F.t 97 rfl) (F.t 115 rfl)) fun a F => ?_
              refine wpList_nil ?_
              replace F := F.only [116, 1, 5, 6, 7, 8, 9, 10, 11, 12, 16, 17] (l' := [(116, .bool true), (1, .slice A1_ a1.length c1_), (5, .bool x1), (6, .pointer (some ⟨g6, 0, none⟩)), (7, .pointer (some ⟨g55, 0, none⟩)), (8, .bool x60), (9, .bool x61), (10, .int .i64 x17), (11, .pointer (some ⟨g39, 0, none⟩)), (12, .slice A42 x40.length c43), (16, .int .i64 x52), (17, .bool x62)]) rfl
              replace H := (H.f3.f3.f2.f3).freeze
              try dsimp only at k_70
              obtain rfl := Option.some.inj k_70
              exact ⟨_, rfl, F.only [1, 5, 6, 7, 8, 9, 10, 11, 12, 16, 17, 116] rfl, H.p6.p6.p6.p6.p4.p7.px6.px6.px6.px6.px6.px6.px6⟩
             ·rw [if_neg c81] at k_70
              rw [decide_eq_false c81] at F
              refine mv F rfl fun a F => ?_
              obtain ⟨x82, e83, k_70⟩ := Option.bind_eq_some_iff.1 k_70
              try dsimp only at k_70
              refine ls (call F Try.func15 (store_Store_Entries_ok (H) e83) rfl rfl fun v w hR a F => ?_)
              obtain ⟨A84, c85, rfl, H⟩ := hR
              refine mv F rfl fun a F => ?_
              replace H := (H).freeze
              replace H := (H.f3.f3.f2.f3).freeze
              obtain ⟨x86, e87, k_70⟩ := Option.bind_eq_some_iff.1 k_70
              try dsimp only at k_70
              refine ls (call F Try.func19 (ref17_SameRows_ok (H.p0.p2) e87) rfl rfl fun v w hR a F => ?_)
              obtain ⟨rfl, H⟩ := hR
              refine qw F (r_not (F.t 113 rfl)) fun a F => ?_
              refine qw F (r_pickF (F.t 109 rfl) (F.t 114 rfl)) fun a F => ?_
              refine qw F (r_pickT (F.t 97 rfl) (F.t 115 rfl)) fun a F => ?_
              refine wpList_nil ?_
              replace F := F.only [116, 1, 5, 6, 7, 8, 9, 10, 11, 12, 16, 17] (l' := [(116, .bool (!x86)), (1, .slice A1_ a1.length c1_), (5, .bool x1), (6, .pointer (some ⟨g6, 0, none⟩)), (7, .pointer (some ⟨g55, 0, none⟩)), (8, .bool x60), (9, .bool x61), (10, .int .i64 x17), (11, .pointer (some ⟨g39, 0, none⟩)), (12, .slice A42 x40.length c43), (16, .int .i64 x52), (17, .bool x62)]) rfl
              try dsimp only at k_70
              obtain rfl := Option.some.inj k_70
              exact ⟨_, rfl, F.only [1, 5, 6, 7, 8, 9, 10, 11, 12, 16, 17, 116] rfl, H.p7.p7.p7.p7.p4.p8.px6.px6.px6.px6.px6.px6.px6.px6⟩
           ·rw [if_neg c72] at k_70
            rw [decide_eq_false c72] at F
            refine of_ F fun a F => ?_
            refine of_ F fun a F => ?_
            refine of_ F fun a F => ?_
            refine of_ F fun a F => ?_
            refine of_ F fun a F => ?_
            refine of_ F fun a F => ?_
            refine of_ F fun a F => ?_
            refine of_ F fun a F => ?_
            refine of_ F fun a F => ?_
            refine of_ F fun a F => ?_
            refine of_ F fun a F => ?_
            refine of_ F fun a F => ?_
            refine of_ F fun a F => ?_
            refine of_ F fun a F => ?_
            refine of_ F fun a F => ?_
            refine of_ F fun a F => ?_
            refine of_ F fun a F => ?_
            refine of_ F fun a F => ?_
            refine qw F (r_pickF (F.t 97 rfl) (F.ev (x := .const (.bool false)) rfl)) fun a F => ?_
            refine wpList_nil ?_
            replace F := F.only [116, 1, 5, 6, 7, 8, 9, 10, 11, 12, 16, 17] (l' := [(116, .bool false), (1, .slice A1_ a1.length c1_), (5, .bool x1), (6, .pointer (some ⟨g6, 0, none⟩)), (7, .pointer (some ⟨g55, 0, none⟩)), (8, .bool x60), (9, .bool x61), (10, .int .i64 x17), (11, .pointer (some ⟨g39, 0, none⟩)), (12, .slice A42 x40.length c43), (16, .int .i64 x52), (17, .bool x62)]) rfl
            replace H := (H).freeze
            try dsimp only at k_70
            obtain rfl := Option.some.inj k_70
            exact ⟨_, rfl, F.only [1, 5, 6, 7, 8, 9, 10, 11, 12, 16, 17, 116] rfl, H.p5.p5.p5.p5.p4.p6.px6.px6.px6.px6.px6.px6⟩
          ·rintro a w ⟨x70, rfl, F, H⟩
           try dsimp only at j_21 F H
           by_cases c88 : x70 = true
           ·rw [if_pos c88] at j_21
            rw [c88] at F
            refine wp_cond_true (F.ev rfl) ?_
            refine rg ?_
            refine as_ F (v := .bool false) rfl fun a F => ?_
            refine rgend ?_
            replace F := F.only [4] (l' := [(4, .bool false)]) rfl
            refine wp_ret ?_
            try dsimp only at j_21
            obtain rfl := Option.some.inj j_21
            obtain rfl := u_21 _ rfl
            try dsimp only at h
            obtain rfl := Option.some.inj h
            exact RET _ _ (ret1 F rfl rfl ⟨_, rfl, rfl, H.px5.px4.px3.px2.px1.px0.fx2.fx1.fx0⟩)
           ·rw [if_neg c88] at j_21
            rw [Bool.eq_false_iff.2 c88] at F
            refine wp_cond_false (F.ev rfl) ?_
            refine wp_skip ?_
            refine wp_seq ?_
            refine wp_seq ?_
            obtain ⟨o_90, k_90, j_21⟩ := Option.bind_eq_some_iff.1 j_21
            refine cut (fun a w => ∃ (x89 : Bool) (x90 : Bool), (x89, x90) = o_90 ∧ Fr 194 [] [(1, .slice A1_ a1.length c1_), (5, .bool x1), (6, .pointer (some ⟨g6, 0, none⟩)), (7, .pointer (some ⟨g55, 0, none⟩)), (8, .bool x60), (9, .bool x61), (10, .int .i64 x17), (11, .pointer (some ⟨g39, 0, none⟩)), (12, .slice A42 x40.length c43), (16, .int .i64 x52), (17, .bool x89), (143, .bool x90)] a ∧ Hp w0 (rd k_law18_Op A1_ c1_ a1 :: rd (kSlice kByte) A42 c43 x40 :: rd kByte A31 c32 ((a1.getD (x17 : Int).toNat (⟨0, [], [], [], 0, []⟩ : law18_Op)).State) :: rd (kSlice kByte) A33 c34 ((a1.getD (x17 : Int).toNat (⟨0, [], [], [], 0, []⟩ : law18_Op)).Kept) :: rd kByte A35 c36 ((a1.getD (x17 : Int).toNat (⟨0, [], [], [], 0, []⟩ : law18_Op)).Entry) :: rd kBool A37 c38 ((a1.getD (x17 : Int).toNat (⟨0, [], [], [], 0, []⟩ : law18_Op)).Keep) :: ps) (obj_store_Store g55 g6 x51 :: obj_disk_Disk g6 x53 :: cel g39 [.int .i64 ((a1.getD (x17 : Int).toNat (⟨0, [], [], [], 0, []⟩ : law18_Op)).What), .slice A31 ((a1.getD (x17 : Int).toNat (⟨0, [], [], [], 0, []⟩ : law18_Op)).State).length c32, .slice A33 ((a1.getD (x17 : Int).toNat (⟨0, [], [], [], 0, []⟩ : law18_Op)).Kept).length c34, .slice A35 ((a1.getD (x17 : Int).toNat (⟨0, [], [], [], 0, []⟩ : law18_Op)).Entry).length c36, .int .i64 ((a1.getD (x17 : Int).toNat (⟨0, [], [], [], 0, []⟩ : law18_Op)).N), .slice A37 ((a1.getD (x17 : Int).toNat (⟨0, [], [], [], 0, []⟩ : law18_Op)).Keep).length c38] 35 :: fs) w) ?_ ?_
            ·skip
             replace H := H.drew
             have HS := H.fx1.fx0
             refine dr (fun w => Hp w0 (rd k_law18_Op A1_ c1_ a1 :: rd (kSlice kByte) A42 c43 x40 :: rd kByte A31 c32 ((a1.getD (x17 : Int).toNat (⟨0, [], [], [], 0, []⟩ : law18_Op)).State) :: rd (kSlice kByte) A33 c34 ((a1.getD (x17 : Int).toNat (⟨0, [], [], [], 0, []⟩ : law18_Op)).Kept) :: rd kByte A35 c36 ((a1.getD (x17 : Int).toNat (⟨0, [], [], [], 0, []⟩ : law18_Op)).Entry) :: rd kBool A37 c38 ((a1.getD (x17 : Int).toNat (⟨0, [], [], [], 0, []⟩ : law18_Op)).Keep) :: ps) (cel g39 [.int .i64 ((a1.getD (x17 : Int).toNat (⟨0, [], [], [], 0, []⟩ : law18_Op)).What), .slice A31 ((a1.getD (x17 : Int).toNat (⟨0, [], [], [], 0, []⟩ : law18_Op)).State).length c32, .slice A33 ((a1.getD (x17 : Int).toNat (⟨0, [], [], [], 0, []⟩ : law18_Op)).Kept).length c34, .slice A35 ((a1.getD (x17 : Int).toNat (⟨0, [], [], [], 0, []⟩ : law18_Op)).Entry).length c36, .int .i64 ((a1.getD (x17 : Int).toNat (⟨0, [], [], [], 0, []⟩ : law18_Op)).N), .slice A37 ((a1.getD (x17 : Int).toNat (⟨0, [], [], [], 0, []⟩ : law18_Op)).Keep).length c38] 35 :: fs) w) _ (by kernel_rfl) ?_ (n := 27)
             refine dq 0 F rfl (by kernel_rfl) NP HS (fun w S => (r_mv (F.t 17 rfl))) fun a F => ?_
             refine dq 1 F rfl (by kernel_rfl) NP HS (fun w S => (r_mv (F.t 117 rfl))) fun a F => ?_
             by_cases c92 : x62 = true
             ·rw [if_pos c92] at k_90
              rw [c92] at F
              refine dq 2 F rfl (by kernel_rfl) NP HS (fun w S => (r_mv (F.t 16 rfl))) fun a F => ?_
              refine dq 3 F rfl (by kernel_rfl) NP HS (fun w S => (r_eq (F.t 119 rfl) (F.ev (x := .const (.int .i64 0)) rfl))) fun a F => ?_
              refine dq 4 F rfl (by kernel_rfl) NP HS (fun w S => (r_pickT (F.t 118 rfl) (F.t 120 rfl))) fun a F => ?_
              refine dq 5 F rfl (by kernel_rfl) NP HS (fun w S => (r_mv (F.t 121 rfl))) fun a F => ?_
              by_cases c93 : x52 = 0
              ·rw [if_pos c93] at k_90
               rw [decide_eq_true c93] at F
               refine dq 6 F rfl (by kernel_rfl) NP HS (fun w S => (r_mv (F.t 7 rfl))) fun a F => ?_
               refine dq 9 F rfl (by kernel_rfl) NP HS (fun w S => (r_fa (off := 1) (F.t 11 rfl) fa35_1)) fun a F => ?_
               refine dq 10 F rfl (by kernel_rfl) NP HS (fun w S => (r_ld (F.t 126 rfl) (cel_cell (o := 1) (S.cell 0 rfl) rfl) one29)) fun a F => ?_
               have hb94 := H.bytes 2 rfl
               refine dq 11 F rfl (by kernel_rfl) NP HS (fun w S => (S.str 2 rfl (F.t 127 rfl) Try.underlying29 Try.underlying5 Try.underlying9)) fun a F => ?_
               obtain ⟨x95, e96, k_90⟩ := Option.bind_eq_some_iff.1 k_90
               try dsimp only at k_90
               refine d1 7 rfl (by kernel_rfl) (call F Try.func17 (store_Store_State_ok (H) e96) rfl rfl fun v w hR a F => ?_)
               obtain ⟨A97, c98, rfl, H⟩ := hR
               have HS := H.fx2.fx1.fx0
               refine kg _ HS (fun w S => S) ?_
               replace H := (H).freeze
               have hb99 := H.bytes 0 rfl
               have HS := H.fx1.fx0
               refine dmoreH HS (fun w S => S.px0) ?_
               refine dq 8 F rfl (by kernel_rfl) NP HS (fun w S => (S.str 0 rfl (F.t 124 rfl) Try.underlying29 Try.underlying5 Try.underlying9)) fun a F => ?_
               refine dq 12 F rfl (by kernel_rfl) NP HS (fun w S => (r_sne (F.t 125 rfl) (F.t 128 rfl) hb99 hb94)) fun a F => ?_
               refine dq 13 F rfl (by kernel_rfl) NP HS (fun w S => (r_mv (F.t 129 rfl))) fun a F => ?_
               by_cases c100 : x95 ≠ ((a1.getD (x17 : Int).toNat (⟨0, [], [], [], 0, []⟩ : law18_Op)).State)
               ·rw [if_pos c100] at k_90
                rw [decide_eq_true c100] at F
                refine doff 14 F rfl (by kernel_rfl) NP HS fun a F => ?_
                refine doff 15 F rfl (by kernel_rfl) NP HS fun a F => ?_
                refine doff 16 F rfl (by kernel_rfl) NP HS fun a F => ?_
                refine doff 17 F rfl (by kernel_rfl) NP HS fun a F => ?_
                refine doff 18 F rfl (by kernel_rfl) NP HS fun a F => ?_
                refine doff 19 F rfl (by kernel_rfl) NP HS fun a F => ?_
                refine dq 20 F rfl (by kernel_rfl) NP HS (fun w S => (r_pickT (F.t 130 rfl) (F.ev (x := .const (.bool true)) rfl))) fun a F => ?_
                refine dq 21 F rfl (by kernel_rfl) NP HS (fun w S => (r_mv (F.t 137 rfl))) fun a F => ?_
                refine doff 22 F rfl (by kernel_rfl) NP HS fun a F => ?_
                refine doff 23 F rfl (by kernel_rfl) NP HS fun a F => ?_
                refine doff 24 F rfl (by kernel_rfl) NP HS fun a F => ?_
                refine dq 25 F rfl (by kernel_rfl) NP HS (fun w S => (r_pickT (F.t 138 rfl) (F.ev (x := .const (.bool true)) rfl))) fun a F => ?_
                refine dq 26 F rfl (by kernel_rfl) NP HS (fun w S => (r_pickT (F.t 122 rfl) (F.t 142 rfl))) fun a F => ?_
                refine ddone (by kernel_rfl) ?_
                replace F := F.only [143, 1, 5, 6, 7, 8, 9, 10, 11, 12, 16, 17] (l' := [(143, .bool true), (1, .slice A1_ a1.length c1_), (5, .bool x1), (6, .pointer (some ⟨g6, 0, none⟩)), (7, .pointer (some ⟨g55, 0, none⟩)), (8, .bool x60), (9, .bool x61), (10, .int .i64 x17), (11, .pointer (some ⟨g39, 0, none⟩)), (12, .slice A42 x40.length c43), (16, .int .i64 x52), (17, .bool true)]) rfl
                try dsimp only at k_90
                obtain rfl := Option.some.inj k_90
                exact ⟨_, _, rfl, F.only [1, 5, 6, 7, 8, 9, 10, 11, 12, 16, 17, 143] rfl, H.px0⟩
               ·rw [if_neg c100] at k_90
                rw [decide_eq_false c100] at F
                refine dq 14 F rfl (by kernel_rfl) NP HS (fun w S => (r_mv (F.t 7 rfl))) fun a F => ?_
                refine dq 16 F rfl (by kernel_rfl) NP HS (fun w S => (r_fa (off := 2) (F.t 11 rfl) fa35_2)) fun a F => ?_
                refine dq 17 F rfl (by kernel_rfl) NP HS (fun w S => (r_ld (F.t 133 rfl) (cel_cell (o := 2) (S.cell 0 rfl) rfl) one30)) fun a F => ?_
                obtain ⟨x101, e102, k_90⟩ := Option.bind_eq_some_iff.1 k_90
                try dsimp only at k_90
                refine d1 15 rfl (by kernel_rfl) (call F Try.func15 (store_Store_Entries_ok (H) e102) rfl rfl fun v w hR a F => ?_)
                obtain ⟨A103, c104, rfl, H⟩ := hR
                have HS := H.fx2.fx1.fx0
                refine kg _ HS (fun w S => S) ?_
                replace H := (H).freeze
                obtain ⟨x105, e106, k_90⟩ := Option.bind_eq_some_iff.1 k_90
                try dsimp only at k_90
                refine d1 18 rfl (by kernel_rfl) (call F Try.func19 (ref17_SameRows_ok (H.p5.p1) e106) rfl rfl fun v w hR a F => ?_)
                obtain ⟨rfl, H⟩ := hR
                have HS := H.fx1.fx0
                refine kg _ HS (fun w S => S.px0) ?_
                refine dq 19 F rfl (by kernel_rfl) NP HS (fun w S => (r_not (F.t 135 rfl))) fun a F => ?_
                refine dq 20 F rfl (by kernel_rfl) NP HS (fun w S => (r_pickF (F.t 130 rfl) (F.t 136 rfl))) fun a F => ?_
                refine dq 21 F rfl (by kernel_rfl) NP HS (fun w S => (r_mv (F.t 137 rfl))) fun a F => ?_
                by_cases c107 : x105 = true
                ·rw [if_pos c107] at k_90
                 rw [c107] at F
                 refine dq 22 F rfl (by kernel_rfl) NP HS (fun w S => (r_mv (F.t 7 rfl))) fun a F => ?_
                 obtain ⟨x108, e109, k_90⟩ := Option.bind_eq_some_iff.1 k_90
                 try dsimp only at k_90
                 refine d1 23 rfl (by kernel_rfl) (call F Try.func16 (store_Store_Has_ok (H) e109) rfl rfl fun v w hR a F => ?_)
                 obtain ⟨rfl, H⟩ := hR
                 have HS := H.fx1.fx0
                 refine kg _ HS (fun w S => S) ?_
                 refine dq 24 F rfl (by kernel_rfl) NP HS (fun w S => (r_not (F.t 140 rfl))) fun a F => ?_
                 refine dq 25 F rfl (by kernel_rfl) NP HS (fun w S => (r_pickF (F.t 138 rfl) (F.t 141 rfl))) fun a F => ?_
                 refine dq 26 F rfl (by kernel_rfl) NP HS (fun w S => (r_pickT (F.t 122 rfl) (F.t 142 rfl))) fun a F => ?_
                 refine ddone (by kernel_rfl) ?_
                 replace F := F.only [143, 1, 5, 6, 7, 8, 9, 10, 11, 12, 16, 17] (l' := [(143, .bool (!x108)), (1, .slice A1_ a1.length c1_), (5, .bool x1), (6, .pointer (some ⟨g6, 0, none⟩)), (7, .pointer (some ⟨g55, 0, none⟩)), (8, .bool x60), (9, .bool x61), (10, .int .i64 x17), (11, .pointer (some ⟨g39, 0, none⟩)), (12, .slice A42 x40.length c43), (16, .int .i64 x52), (17, .bool true)]) rfl
                 try dsimp only at k_90
                 obtain rfl := Option.some.inj k_90
                 exact ⟨_, _, rfl, F.only [1, 5, 6, 7, 8, 9, 10, 11, 12, 16, 17, 143] rfl, H.px1.px0⟩
                ·rw [if_neg c107] at k_90
                 rw [Bool.eq_false_iff.2 c107] at F
                 refine doff 22 F rfl (by kernel_rfl) NP HS fun a F => ?_
                 refine doff 23 F rfl (by kernel_rfl) NP HS fun a F => ?_
                 refine doff 24 F rfl (by kernel_rfl) NP HS fun a F => ?_
                 refine dq 25 F rfl (by kernel_rfl) NP HS (fun w S => (r_pickT (F.t 138 rfl) (F.ev (x := .const (.bool true)) rfl))) fun a F => ?_
                 refine dq 26 F rfl (by kernel_rfl) NP HS (fun w S => (r_pickT (F.t 122 rfl) (F.t 142 rfl))) fun a F => ?_
                 refine ddone (by kernel_rfl) ?_
                 replace F := F.only [143, 1, 5, 6, 7, 8, 9, 10, 11, 12, 16, 17] (l' := [(143, .bool true), (1, .slice A1_ a1.length c1_), (5, .bool x1), (6, .pointer (some ⟨g6, 0, none⟩)), (7, .pointer (some ⟨g55, 0, none⟩)), (8, .bool x60), (9, .bool x61), (10, .int .i64 x17), (11, .pointer (some ⟨g39, 0, none⟩)), (12, .slice A42 x40.length c43), (16, .int .i64 x52), (17, .bool true)]) rfl
                 try dsimp only at k_90
                 obtain rfl := Option.some.inj k_90
                 exact ⟨_, _, rfl, F.only [1, 5, 6, 7, 8, 9, 10, 11, 12, 16, 17, 143] rfl, H.px1.px0⟩
              ·rw [if_neg c93] at k_90
               rw [decide_eq_false c93] at F
               refine doff 6 F rfl (by kernel_rfl) NP HS fun a F => ?_
               refine doff 7 F rfl (by kernel_rfl) NP HS fun a F => ?_
               refine doff 8 F rfl (by kernel_rfl) NP HS fun a F => ?_
               refine doff 9 F rfl (by kernel_rfl) NP HS fun a F => ?_
               refine doff 10 F rfl (by kernel_rfl) NP HS fun a F => ?_
               refine doff 11 F rfl (by kernel_rfl) NP HS fun a F => ?_
               refine doff 12 F rfl (by kernel_rfl) NP HS fun a F => ?_
               refine doff 13 F rfl (by kernel_rfl) NP HS fun a F => ?_
               refine doff 14 F rfl (by kernel_rfl) NP HS fun a F => ?_
               refine doff 15 F rfl (by kernel_rfl) NP HS fun a F => ?_
               refine doff 16 F rfl (by kernel_rfl) NP HS fun a F => ?_
               refine doff 17 F rfl (by kernel_rfl) NP HS fun a F => ?_
               refine doff 18 F rfl (by kernel_rfl) NP HS fun a F => ?_
               refine doff 19 F rfl (by kernel_rfl) NP HS fun a F => ?_
               refine doff 20 F rfl (by kernel_rfl) NP HS fun a F => ?_
               refine doff 21 F rfl (by kernel_rfl) NP HS fun a F => ?_
               refine doff 22 F rfl (by kernel_rfl) NP HS fun a F => ?_
               refine doff 23 F rfl (by kernel_rfl) NP HS fun a F => ?_
               refine doff 24 F rfl (by kernel_rfl) NP HS fun a F => ?_
               refine doff 25 F rfl (by kernel_rfl) NP HS fun a F => ?_
               refine dq 26 F rfl (by kernel_rfl) NP HS (fun w S => (r_pickF (F.t 122 rfl) (F.ev (x := .const (.bool false)) rfl))) fun a F => ?_
               refine ddone (by kernel_rfl) ?_
               replace F := F.only [143, 1, 5, 6, 7, 8, 9, 10, 11, 12, 16, 17] (l' := [(143, .bool false), (1, .slice A1_ a1.length c1_), (5, .bool x1), (6, .pointer (some ⟨g6, 0, none⟩)), (7, .pointer (some ⟨g55, 0, none⟩)), (8, .bool x60), (9, .bool x61), (10, .int .i64 x17), (11, .pointer (some ⟨g39, 0, none⟩)), (12, .slice A42 x40.length c43), (16, .int .i64 x52), (17, .bool true)]) rfl
               try dsimp only at k_90
               obtain rfl := Option.some.inj k_90
               exact ⟨_, _, rfl, F.only [1, 5, 6, 7, 8, 9, 10, 11, 12, 16, 17, 143] rfl, H⟩
             ·rw [if_neg c92] at k_90
              rw [Bool.eq_false_iff.2 c92] at F
              refine doff 2 F rfl (by kernel_rfl) NP HS fun a F => ?_
              refine doff 3 F rfl (by kernel_rfl) NP HS fun a F => ?_
              refine dq 4 F rfl (by kernel_rfl) NP HS (fun w S => (r_pickF (F.t 118 rfl) (F.ev (x := .const (.bool false)) rfl))) fun a F => ?_
              refine dq 5 F rfl (by kernel_rfl) NP HS (fun w S => (r_mv (F.t 121 rfl))) fun a F => ?_
              refine doff 6 F rfl (by kernel_rfl) NP HS fun a F => ?_
              refine doff 7 F rfl (by kernel_rfl) NP HS fun a F => ?_
              refine doff 8 F rfl (by kernel_rfl) NP HS fun a F => ?_
              refine doff 9 F rfl (by kernel_rfl) NP HS fun a F => ?_
              refine doff 10 F rfl (by kernel_rfl) NP HS fun a F => ?_
              refine doff 11 F rfl (by kernel_rfl) NP HS fun a F => ?_
              refine doff 12 F rfl (by kernel_rfl) NP HS fun a F => ?_
              refine doff 13 F rfl (by kernel_rfl) NP HS fun a F => ?_
              refine doff 14 F rfl (by kernel_rfl) NP HS fun a F => ?_
              refine doff 15 F rfl (by kernel_rfl) NP HS fun a F => ?_
              refine doff 16 F rfl (by kernel_rfl) NP HS fun a F => ?_
              refine doff 17 F rfl (by kernel_rfl) NP HS fun a F => ?_
              refine doff 18 F rfl (by kernel_rfl) NP HS fun a F => ?_
              refine doff 19 F rfl (by kernel_rfl) NP HS fun a F => ?_
              refine doff 20 F rfl (by kernel_rfl) NP HS fun a F => ?_
              refine doff 21 F rfl (by kernel_rfl) NP HS fun a F => ?_
              refine doff 22 F rfl (by kernel_rfl) NP HS fun a F => ?_
              refine doff 23 F rfl (by kernel_rfl) NP HS fun a F => ?_
              refine doff 24 F rfl (by kernel_rfl) NP HS fun a F => ?_
              refine doff 25 F rfl (by kernel_rfl) NP HS fun a F => ?_
              refine dq 26 F rfl (by kernel_rfl) NP HS (fun w S => (r_pickF (F.t 122 rfl) (F.ev (x := .const (.bool false)) rfl))) fun a F => ?_
              refine ddone (by kernel_rfl) ?_
              replace F := F.only [143, 1, 5, 6, 7, 8, 9, 10, 11, 12, 16, 17] (l' := [(143, .bool false), (1, .slice A1_ a1.length c1_), (5, .bool x1), (6, .pointer (some ⟨g6, 0, none⟩)), (7, .pointer (some ⟨g55, 0, none⟩)), (8, .bool x60), (9, .bool x61), (10, .int .i64 x17), (11, .pointer (some ⟨g39, 0, none⟩)), (12, .slice A42 x40.length c43), (16, .int .i64 x52), (17, .bool false)]) rfl
              try dsimp only at k_90
              obtain rfl := Option.some.inj k_90
              exact ⟨_, _, rfl, F.only [1, 5, 6, 7, 8, 9, 10, 11, 12, 16, 17, 143] rfl, H⟩
            ·rintro a w ⟨x89, x90, rfl, F, H⟩
             try dsimp only at j_21 F H
             by_cases c110 : x90 = true
             ·rw [if_pos c110] at j_21
              rw [c110] at F
              refine wp_cond_true (F.ev rfl) ?_
              refine rg ?_
              refine as_ F (v := .bool false) rfl fun a F => ?_
              refine rgend ?_
              replace F := F.only [4] (l' := [(4, .bool false)]) rfl
              refine wp_ret ?_
              try dsimp only at j_21
              obtain rfl := Option.some.inj j_21
              obtain rfl := u_21 _ rfl
              try dsimp only at h
              obtain rfl := Option.some.inj h
              exact RET _ _ (ret1 F rfl rfl ⟨_, rfl, rfl, H.px5.px4.px3.px2.px1.px0.fx2.fx1.fx0⟩)
             ·rw [if_neg c110] at j_21
              rw [Bool.eq_false_iff.2 c110] at F
              refine wp_cond_false (F.ev rfl) ?_
              refine wp_skip ?_
              refine wp_seq ?_
              refine wp_seq ?_
              obtain ⟨o_111, k_111, j_21⟩ := Option.bind_eq_some_iff.1 j_21
              refine cut (fun a w => ∃ (x111 : Bool), x111 = o_111 ∧ Fr 194 [] [(1, .slice A1_ a1.length c1_), (5, .bool x1), (6, .pointer (some ⟨g6, 0, none⟩)), (7, .pointer (some ⟨g55, 0, none⟩)), (8, .bool x60), (9, .bool x61), (10, .int .i64 x17), (16, .int .i64 x52), (17, .bool x89), (168, .bool x111)] a ∧ Hp w0 (rd k_law18_Op A1_ c1_ a1 :: ps) (obj_store_Store g55 g6 x51 :: obj_disk_Disk g6 x53 :: fs) w) ?_ ?_
              ·skip
               replace H := H.drew
               have HS := H.fx1.fx0
               refine dr (fun w => Hp w0 (rd k_law18_Op A1_ c1_ a1 :: rd (kSlice kByte) A42 c43 x40 :: rd kByte A31 c32 ((a1.getD (x17 : Int).toNat (⟨0, [], [], [], 0, []⟩ : law18_Op)).State) :: rd (kSlice kByte) A33 c34 ((a1.getD (x17 : Int).toNat (⟨0, [], [], [], 0, []⟩ : law18_Op)).Kept) :: rd kByte A35 c36 ((a1.getD (x17 : Int).toNat (⟨0, [], [], [], 0, []⟩ : law18_Op)).Entry) :: rd kBool A37 c38 ((a1.getD (x17 : Int).toNat (⟨0, [], [], [], 0, []⟩ : law18_Op)).Keep) :: ps) (cel g39 [.int .i64 ((a1.getD (x17 : Int).toNat (⟨0, [], [], [], 0, []⟩ : law18_Op)).What), .slice A31 ((a1.getD (x17 : Int).toNat (⟨0, [], [], [], 0, []⟩ : law18_Op)).State).length c32, .slice A33 ((a1.getD (x17 : Int).toNat (⟨0, [], [], [], 0, []⟩ : law18_Op)).Kept).length c34, .slice A35 ((a1.getD (x17 : Int).toNat (⟨0, [], [], [], 0, []⟩ : law18_Op)).Entry).length c36, .int .i64 ((a1.getD (x17 : Int).toNat (⟨0, [], [], [], 0, []⟩ : law18_Op)).N), .slice A37 ((a1.getD (x17 : Int).toNat (⟨0, [], [], [], 0, []⟩ : law18_Op)).Keep).length c38] 35 :: fs) w) _ (by kernel_rfl) ?_ (n := 25)
               refine dq 0 F rfl (by kernel_rfl) NP HS (fun w S => (r_fa (off := 0) (F.t 11 rfl) fa35_0)) fun a F => ?_
               refine dq 1 F rfl (by kernel_rfl) NP HS (fun w S => (r_ld (F.t 144 rfl) (cel_cell (o := 0) (S.cell 0 rfl) rfl) one3)) fun a F => ?_
               refine dq 2 F rfl (by kernel_rfl) NP HS (fun w S => (r_ge (F.t 145 rfl) (F.ev (x := .const (.int .i64 2)) rfl))) fun a F => ?_
               refine dq 3 F rfl (by kernel_rfl) NP HS (fun w S => (r_mv (F.t 146 rfl))) fun a F => ?_
               by_cases c113 : ((a1.getD (x17 : Int).toNat (⟨0, [], [], [], 0, []⟩ : law18_Op)).What) ≥ 2
               ·rw [if_pos c113] at k_111
                rw [decide_eq_true c113] at F
                refine dq 4 F rfl (by kernel_rfl) NP HS (fun w S => (r_fa (off := 0) (F.t 11 rfl) fa35_0)) fun a F => ?_
                refine dq 5 F rfl (by kernel_rfl) NP HS (fun w S => (r_ld (F.t 148 rfl) (cel_cell (o := 0) (S.cell 0 rfl) rfl) one3)) fun a F => ?_
                refine dq 6 F rfl (by kernel_rfl) NP HS (fun w S => (r_le (F.t 149 rfl) (F.ev (x := .const (.int .i64 4)) rfl))) fun a F => ?_
                refine dq 7 F rfl (by kernel_rfl) NP HS (fun w S => (r_pickT (F.t 147 rfl) (F.t 150 rfl))) fun a F => ?_
                refine dq 8 F rfl (by kernel_rfl) NP HS (fun w S => (r_mv (F.t 151 rfl))) fun a F => ?_
                by_cases c114 : ((a1.getD (x17 : Int).toNat (⟨0, [], [], [], 0, []⟩ : law18_Op)).What) ≤ 4
                ·rw [if_pos c114] at k_111
                 rw [decide_eq_true c114] at F
                 refine dq 9 F rfl (by kernel_rfl) NP HS (fun w S => (r_mv (F.t 16 rfl))) fun a F => ?_
                 refine dq 10 F rfl (by kernel_rfl) NP HS (fun w S => (r_eq (F.t 153 rfl) (F.ev (x := .const (.int .i64 0)) rfl))) fun a F => ?_
                 refine dq 11 F rfl (by kernel_rfl) NP HS (fun w S => (r_pickT (F.t 152 rfl) (F.t 154 rfl))) fun a F => ?_
                 refine dq 12 F rfl (by kernel_rfl) NP HS (fun w S => (r_mv (F.t 155 rfl))) fun a F => ?_
                 by_cases c115 : x52 = 0
                 ·rw [if_pos c115] at k_111
                  rw [decide_eq_true c115] at F
                  refine dq 13 F rfl (by kernel_rfl) NP HS (fun w S => (r_mv (F.t 7 rfl))) fun a F => ?_
                  refine dq 16 F rfl (by kernel_rfl) NP HS (fun w S => (r_mv (F.t 12 rfl))) fun a F => ?_
                  refine dq 18 F rfl (by kernel_rfl) NP HS (fun w S => (r_fa (off := 3) (F.t 11 rfl) fa35_3)) fun a F => ?_
                  refine dq 19 F rfl (by kernel_rfl) NP HS (fun w S => (r_ld (F.t 162 rfl) (cel_cell (o := 3) (S.cell 0 rfl) rfl) one29)) fun a F => ?_
                  refine d3 14 15 20 rfl rfl rfl (by kernel_rfl) ?_ ?_ ?_
                  ·skip
                   obtain ⟨x116, e117, k_111⟩ := Option.bind_eq_some_iff.1 k_111
                   try dsimp only at k_111
                   refine call F Try.func15 (store_Store_Entries_ok (H) e117) rfl rfl fun v w hR a F => ?_
                   obtain ⟨A118, c119, rfl, H⟩ := hR
                   have HS := H.fx2.fx1.fx0
                   refine kg _ HS (fun w S => S) ?_
                   refine d2 15 20 rfl rfl (by kernel_rfl) ?_ ?_
                   ·skip
                    refine lbs F H (e := 29) (vs := []) (cs := []) rfl (fun w => by kernel_rfl) fun g120 w a H F => ?_
                    have HS := H.fx3.fx2.fx1.fx0
                    refine kg _ HS (fun w S => S) ?_
                    refine d2 17 20 rfl rfl (by kernel_rfl) ?_ ?_
                    ·skip
                     replace H := Hp.litOwn (kd := (kSlice kByte)) (xs := []) (H) (SayL.nil) (Nat.le_of_ble_eq_true rfl)
                     obtain ⟨c121, k_111⟩ := guardO k_111
                     obtain ⟨A122, c123, _, hr, H⟩ := Hp.appendRd (kd := (kSlice kByte)) (xs := []) (ys := x40) (H) 1 rfl (F.t 159 rfl) (F.t 160 rfl) Try.underlying30 ti29 rfl (by decide) (by decide) c121
                     rw [List.nil_append] at hr H
                     refine qv F (hr _ _ _ _ _) fun a F => ?_
                     have HS := H.fx3.fx2.fx1.fx0
                     refine kg _ HS (fun w S => S) ?_
                     refine d1 20 rfl (by kernel_rfl) (lbs F H (e := 29) (vs := [(0, .slice A35 ((a1.getD (x17 : Int).toNat (⟨0, [], [], [], 0, []⟩ : law18_Op)).Entry).length c36)]) (cs := [.slice A35 ((a1.getD (x17 : Int).toNat (⟨0, [], [], [], 0, []⟩ : law18_Op)).Entry).length c36]) rfl (fun w => by kernel_rfl) fun g124 w a H F => ?_)
                     have HS := H.fx4.fx3.fx2.fx1.fx0
                     refine kg _ HS (fun w S => S) ?_
                     obtain ⟨c125, k_111⟩ := guardO k_111
                     obtain ⟨A126, c127, _, hr, H⟩ := Hp.appendCelL (kd := (kSlice kByte)) (xs := x40) (ys := [(a1.getD (x17 : Int).toNat (⟨0, [], [], [], 0, []⟩ : law18_Op)).Entry]) (H.f5.f5.f5.f5.f4.f5) (F.t 161 rfl) (F.t 164 rfl) Try.underlying30 ti29 rfl (by decide) (by decide) rfl ((SayL.cons (kd := (kSlice kByte)) (c1 := [.slice A35 ((a1.getD (x17 : Int).toNat (⟨0, [], [], [], 0, []⟩ : law18_Op)).Entry).length c36]) (y := (a1.getD (x17 : Int).toNat (⟨0, [], [], [], 0, []⟩ : law18_Op)).Entry) (fun Z hp => ⟨A35, c36, rfl, pat hp 4 rfl⟩) SayL.nil)) c125
                     refine d1 21 rfl (by kernel_rfl) (qv F (hr _ _ _ _ _) fun a F => ?_)
                     have HS := H.fx3.fx2.fx1.fx0
                     refine kg _ HS (fun w S => S) ?_
                     replace H := (H.f4.f4.f4.f3.f4).freeze
                     replace H := (H).freeze
                     obtain ⟨x128, e129, k_111⟩ := Option.bind_eq_some_iff.1 k_111
                     try dsimp only at k_111
                     refine d1 22 rfl (by kernel_rfl) (call F Try.func19 (ref17_SameRows_ok (H.p0.p2) e129) rfl rfl fun v w hR a F => ?_)
                     obtain ⟨rfl, H⟩ := hR
                     have HS := H.fx1.fx0
                     refine kg _ HS (fun w S => S.px1.px0) ?_
                     refine dq 23 F rfl (by kernel_rfl) NP HS (fun w S => (r_not (F.t 166 rfl))) fun a F => ?_
                     refine dq 24 F rfl (by kernel_rfl) NP HS (fun w S => (r_pickT (F.t 156 rfl) (F.t 167 rfl))) fun a F => ?_
                     refine ddone (by kernel_rfl) ?_
                     replace F := F.only [168, 1, 5, 6, 7, 8, 9, 10, 16, 17] (l' := [(168, .bool (!x128)), (1, .slice A1_ a1.length c1_), (5, .bool x1), (6, .pointer (some ⟨g6, 0, none⟩)), (7, .pointer (some ⟨g55, 0, none⟩)), (8, .bool x60), (9, .bool x61), (10, .int .i64 x17), (16, .int .i64 x52), (17, .bool x89)]) rfl
                     try dsimp only at k_111
                     obtain rfl := Option.some.inj k_111
                     exact ⟨_, rfl, F.only [1, 5, 6, 7, 8, 9, 10, 16, 17, 168] rfl, H.px7.px6.px5.px4.px3.px1.px0.fx2⟩
                    ·skip
                     refine lbs F H (e := 29) (vs := [(0, .slice A35 ((a1.getD (x17 : Int).toNat (⟨0, [], [], [], 0, []⟩ : law18_Op)).Entry).length c36)]) (cs := [.slice A35 ((a1.getD (x17 : Int).toNat (⟨0, [], [], [], 0, []⟩ : law18_Op)).Entry).length c36]) rfl (fun w => by kernel_rfl) fun g130 w a H F => ?_
                     have HS := H.fx4.fx3.fx2.fx1.fx0
                     refine kg _ HS (fun w S => S) ?_
                     replace H := Hp.litOwn (kd := (kSlice kByte)) (xs := []) (H.f5.f5.f5.f5.f4.f5) (SayL.nil) (Nat.le_of_ble_eq_true rfl)
                     obtain ⟨c131, k_111⟩ := guardO k_111
                     obtain ⟨A132, c133, _, hr, H⟩ := Hp.appendRd (kd := (kSlice kByte)) (xs := []) (ys := x40) (H) 1 rfl (F.t 159 rfl) (F.t 160 rfl) Try.underlying30 ti29 rfl (by decide) (by decide) c131
                     rw [List.nil_append] at hr H
                     refine d1 17 rfl (by kernel_rfl) (qv F (hr _ _ _ _ _) fun a F => ?_)
                     have HS := H.fx4.fx3.fx2.fx1.fx0
                     refine kg _ HS (fun w S => S) ?_
                     obtain ⟨c134, k_111⟩ := guardO k_111
                     obtain ⟨A135, c136, _, hr, H⟩ := Hp.appendCelL (kd := (kSlice kByte)) (xs := x40) (ys := [(a1.getD (x17 : Int).toNat (⟨0, [], [], [], 0, []⟩ : law18_Op)).Entry]) (H) (F.t 161 rfl) (F.t 164 rfl) Try.underlying30 ti29 rfl (by decide) (by decide) rfl ((SayL.cons (kd := (kSlice kByte)) (c1 := [.slice A35 ((a1.getD (x17 : Int).toNat (⟨0, [], [], [], 0, []⟩ : law18_Op)).Entry).length c36]) (y := (a1.getD (x17 : Int).toNat (⟨0, [], [], [], 0, []⟩ : law18_Op)).Entry) (fun Z hp => ⟨A35, c36, rfl, pat hp 4 rfl⟩) SayL.nil)) c134
                     refine d1 21 rfl (by kernel_rfl) (qv F (hr _ _ _ _ _) fun a F => ?_)
                     have HS := H.fx3.fx2.fx1.fx0
                     refine kg _ HS (fun w S => S) ?_
                     replace H := (H.f4.f4.f4.f3.f4).freeze
                     replace H := (H).freeze
                     obtain ⟨x137, e138, k_111⟩ := Option.bind_eq_some_iff.1 k_111
                     try dsimp only at k_111
                     refine d1 22 rfl (by kernel_rfl) (call F Try.func19 (ref17_SameRows_ok (H.p0.p2) e138) rfl rfl fun v w hR a F => ?_)
                     obtain ⟨rfl, H⟩ := hR
                     have HS := H.fx1.fx0
                     refine kg _ HS (fun w S => S.px1.px0) ?_
                     refine dq 23 F rfl (by kernel_rfl) NP HS (fun w S => (r_not (F.t 166 rfl))) fun a F => ?_
                     refine dq 24 F rfl (by kernel_rfl) NP HS (fun w S => (r_pickT (F.t 156 rfl) (F.t 167 rfl))) fun a F => ?_
                     refine ddone (by kernel_rfl) ?_
                     replace F := F.only [168, 1, 5, 6, 7, 8, 9, 10, 16, 17] (l' := [(168, .bool (!x137)), (1, .slice A1_ a1.length c1_), (5, .bool x1), (6, .pointer (some ⟨g6, 0, none⟩)), (7, .pointer (some ⟨g55, 0, none⟩)), (8, .bool x60), (9, .bool x61), (10, .int .i64 x17), (16, .int .i64 x52), (17, .bool x89)]) rfl
                     try dsimp only at k_111
                     obtain rfl := Option.some.inj k_111
                     exact ⟨_, rfl, F.only [1, 5, 6, 7, 8, 9, 10, 16, 17, 168] rfl, H.px7.px6.px5.px4.px3.px1.px0.fx2⟩
                   ·skip
                    refine lbs F H (e := 29) (vs := [(0, .slice A35 ((a1.getD (x17 : Int).toNat (⟨0, [], [], [], 0, []⟩ : law18_Op)).Entry).length c36)]) (cs := [.slice A35 ((a1.getD (x17 : Int).toNat (⟨0, [], [], [], 0, []⟩ : law18_Op)).Entry).length c36]) rfl (fun w => by kernel_rfl) fun g139 w a H F => ?_
                    have HS := H.fx3.fx2.fx1.fx0
                    refine kg _ HS (fun w S => S) ?_
                    refine d1 15 rfl (by kernel_rfl) (lbs F H (e := 29) (vs := []) (cs := []) rfl (fun w => by kernel_rfl) fun g140 w a H F => ?_)
                    have HS := H.fx4.fx3.fx2.fx1.fx0
                    refine kg _ HS (fun w S => S) ?_
                    replace H := Hp.litOwn (kd := (kSlice kByte)) (xs := []) (H) (SayL.nil) (Nat.le_of_ble_eq_true rfl)
                    obtain ⟨c141, k_111⟩ := guardO k_111
                    obtain ⟨A142, c143, _, hr, H⟩ := Hp.appendRd (kd := (kSlice kByte)) (xs := []) (ys := x40) (H) 1 rfl (F.t 159 rfl) (F.t 160 rfl) Try.underlying30 ti29 rfl (by decide) (by decide) c141
                    rw [List.nil_append] at hr H
                    refine d1 17 rfl (by kernel_rfl) (qv F (hr _ _ _ _ _) fun a F => ?_)
                    have HS := H.fx4.fx3.fx2.fx1.fx0
                    refine kg _ HS (fun w S => S) ?_
                    obtain ⟨c144, k_111⟩ := guardO k_111
                    obtain ⟨A145, c146, _, hr, H⟩ := Hp.appendCelL (kd := (kSlice kByte)) (xs := x40) (ys := [(a1.getD (x17 : Int).toNat (⟨0, [], [], [], 0, []⟩ : law18_Op)).Entry]) (H) (F.t 161 rfl) (F.t 164 rfl) Try.underlying30 ti29 rfl (by decide) (by decide) rfl ((SayL.cons (kd := (kSlice kByte)) (c1 := [.slice A35 ((a1.getD (x17 : Int).toNat (⟨0, [], [], [], 0, []⟩ : law18_Op)).Entry).length c36]) (y := (a1.getD (x17 : Int).toNat (⟨0, [], [], [], 0, []⟩ : law18_Op)).Entry) (fun Z hp => ⟨A35, c36, rfl, pat hp 4 rfl⟩) SayL.nil)) c144
                    refine d1 21 rfl (by kernel_rfl) (qv F (hr _ _ _ _ _) fun a F => ?_)
                    have HS := H.fx3.fx2.fx1.fx0
                    refine kg _ HS (fun w S => S) ?_
                    replace H := (H.f4.f4.f4.f3.f4).freeze
                    replace H := (H).freeze
                    obtain ⟨x147, e148, k_111⟩ := Option.bind_eq_some_iff.1 k_111
                    try dsimp only at k_111
                    refine d1 22 rfl (by kernel_rfl) (call F Try.func19 (ref17_SameRows_ok (H.p0.p2) e148) rfl rfl fun v w hR a F => ?_)
                    obtain ⟨rfl, H⟩ := hR
                    have HS := H.fx1.fx0
                    refine kg _ HS (fun w S => S.px1.px0) ?_
                    refine dq 23 F rfl (by kernel_rfl) NP HS (fun w S => (r_not (F.t 166 rfl))) fun a F => ?_
                    refine dq 24 F rfl (by kernel_rfl) NP HS (fun w S => (r_pickT (F.t 156 rfl) (F.t 167 rfl))) fun a F => ?_
                    refine ddone (by kernel_rfl) ?_
                    replace F := F.only [168, 1, 5, 6, 7, 8, 9, 10, 16, 17] (l' := [(168, .bool (!x147)), (1, .slice A1_ a1.length c1_), (5, .bool x1), (6, .pointer (some ⟨g6, 0, none⟩)), (7, .pointer (some ⟨g55, 0, none⟩)), (8, .bool x60), (9, .bool x61), (10, .int .i64 x17), (16, .int .i64 x52), (17, .bool x89)]) rfl
                    try dsimp only at k_111
                    obtain rfl := Option.some.inj k_111
                    exact ⟨_, rfl, F.only [1, 5, 6, 7, 8, 9, 10, 16, 17, 168] rfl, H.px7.px6.px5.px4.px3.px1.px0.fx2⟩
                  ·skip
                   refine lbs F H (e := 29) (vs := []) (cs := []) rfl (fun w => by kernel_rfl) fun g149 w a H F => ?_
                   have HS := H.fx2.fx1.fx0
                   refine kg _ HS (fun w S => S) ?_
                   refine d2 14 20 rfl rfl (by kernel_rfl) ?_ ?_
                   ·skip
                    obtain ⟨x150, e151, k_111⟩ := Option.bind_eq_some_iff.1 k_111
                    try dsimp only at k_111
                    refine call F Try.func15 (store_Store_Entries_ok (H.f3.f3.f2.f3) e151) rfl rfl fun v w hR a F => ?_
                    obtain ⟨A152, c153, rfl, H⟩ := hR
                    have HS := H.fx3.fx2.fx1.fx0
                    refine kg _ HS (fun w S => S) ?_
                    refine d2 17 20 rfl rfl (by kernel_rfl) ?_ ?_
                    ·skip
                     replace H := Hp.litOwn (kd := (kSlice kByte)) (xs := []) (H.f4.f4.f3.f3.f4) (SayL.nil) (Nat.le_of_ble_eq_true rfl)
                     obtain ⟨c154, k_111⟩ := guardO k_111
                     obtain ⟨A155, c156, _, hr, H⟩ := Hp.appendRd (kd := (kSlice kByte)) (xs := []) (ys := x40) (H) 1 rfl (F.t 159 rfl) (F.t 160 rfl) Try.underlying30 ti29 rfl (by decide) (by decide) c154
                     rw [List.nil_append] at hr H
                     refine qv F (hr _ _ _ _ _) fun a F => ?_
                     have HS := H.fx3.fx2.fx1.fx0
                     refine kg _ HS (fun w S => S) ?_
                     refine d1 20 rfl (by kernel_rfl) (lbs F H (e := 29) (vs := [(0, .slice A35 ((a1.getD (x17 : Int).toNat (⟨0, [], [], [], 0, []⟩ : law18_Op)).Entry).length c36)]) (cs := [.slice A35 ((a1.getD (x17 : Int).toNat (⟨0, [], [], [], 0, []⟩ : law18_Op)).Entry).length c36]) rfl (fun w => by kernel_rfl) fun g157 w a H F => ?_)
                     have HS := H.fx4.fx3.fx2.fx1.fx0
                     refine kg _ HS (fun w S => S) ?_
                     obtain ⟨c158, k_111⟩ := guardO k_111
                     obtain ⟨A159, c160, _, hr, H⟩ := Hp.appendCelL (kd := (kSlice kByte)) (xs := x40) (ys := [(a1.getD (x17 : Int).toNat (⟨0, [], [], [], 0, []⟩ : law18_Op)).Entry]) (H.f5.f5.f5.f5.f4.f5) (F.t 161 rfl) (F.t 164 rfl) Try.underlying30 ti29 rfl (by decide) (by decide) rfl ((SayL.cons (kd := (kSlice kByte)) (c1 := [.slice A35 ((a1.getD (x17 : Int).toNat (⟨0, [], [], [], 0, []⟩ : law18_Op)).Entry).length c36]) (y := (a1.getD (x17 : Int).toNat (⟨0, [], [], [], 0, []⟩ : law18_Op)).Entry) (fun Z hp => ⟨A35, c36, rfl, pat hp 4 rfl⟩) SayL.nil)) c158
                     refine d1 21 rfl (by kernel_rfl) (qv F (hr _ _ _ _ _) fun a F => ?_)
                     have HS := H.fx3.fx2.fx1.fx0
                     refine kg _ HS (fun w S => S) ?_
                     replace H := (H.f4.f4.f4.f3.f4).freeze
                     replace H := (H).freeze
                     obtain ⟨x161, e162, k_111⟩ := Option.bind_eq_some_iff.1 k_111
                     try dsimp only at k_111
                     refine d1 22 rfl (by kernel_rfl) (call F Try.func19 (ref17_SameRows_ok (H.p0.p2) e162) rfl rfl fun v w hR a F => ?_)
                     obtain ⟨rfl, H⟩ := hR
                     have HS := H.fx1.fx0
                     refine kg _ HS (fun w S => S.px1.px0) ?_
                     refine dq 23 F rfl (by kernel_rfl) NP HS (fun w S => (r_not (F.t 166 rfl))) fun a F => ?_
                     refine dq 24 F rfl (by kernel_rfl) NP HS (fun w S => (r_pickT (F.t 156 rfl) (F.t 167 rfl))) fun a F => ?_
                     refine ddone (by kernel_rfl) ?_
                     replace F := F.only [168, 1, 5, 6, 7, 8, 9, 10, 16, 17] (l' := [(168, .bool (!x161)), (1, .slice A1_ a1.length c1_), (5, .bool x1), (6, .pointer (some ⟨g6, 0, none⟩)), (7, .pointer (some ⟨g55, 0, none⟩)), (8, .bool x60), (9, .bool x61), (10, .int .i64 x17), (16, .int .i64 x52), (17, .bool x89)]) rfl
                     try dsimp only at k_111
                     obtain rfl := Option.some.inj k_111
                     exact ⟨_, rfl, F.only [1, 5, 6, 7, 8, 9, 10, 16, 17, 168] rfl, H.px7.px6.px5.px4.px3.px1.px0.fx2⟩
                    ·skip
                     refine lbs F H (e := 29) (vs := [(0, .slice A35 ((a1.getD (x17 : Int).toNat (⟨0, [], [], [], 0, []⟩ : law18_Op)).Entry).length c36)]) (cs := [.slice A35 ((a1.getD (x17 : Int).toNat (⟨0, [], [], [], 0, []⟩ : law18_Op)).Entry).length c36]) rfl (fun w => by kernel_rfl) fun g163 w a H F => ?_
                     have HS := H.fx4.fx3.fx2.fx1.fx0
                     refine kg _ HS (fun w S => S) ?_
                     replace H := Hp.litOwn (kd := (kSlice kByte)) (xs := []) (H.f5.f5.f4.f4.f4.f5) (SayL.nil) (Nat.le_of_ble_eq_true rfl)
                     obtain ⟨c164, k_111⟩ := guardO k_111
                     obtain ⟨A165, c166, _, hr, H⟩ := Hp.appendRd (kd := (kSlice kByte)) (xs := []) (ys := x40) (H) 1 rfl (F.t 159 rfl) (F.t 160 rfl) Try.underlying30 ti29 rfl (by decide) (by decide) c164
                     rw [List.nil_append] at hr H
                     refine d1 17 rfl (by kernel_rfl) (qv F (hr _ _ _ _ _) fun a F => ?_)
                     have HS := H.fx4.fx3.fx2.fx1.fx0
                     refine kg _ HS (fun w S => S) ?_
                     obtain ⟨c167, k_111⟩ := guardO k_111
                     obtain ⟨A168, c169, _, hr, H⟩ := Hp.appendCelL (kd := (kSlice kByte)) (xs := x40) (ys := [(a1.getD (x17 : Int).toNat (⟨0, [], [], [], 0, []⟩ : law18_Op)).Entry]) (H) (F.t 161 rfl) (F.t 164 rfl) Try.underlying30 ti29 rfl (by decide) (by decide) rfl ((SayL.cons (kd := (kSlice kByte)) (c1 := [.slice A35 ((a1.getD (x17 : Int).toNat (⟨0, [], [], [], 0, []⟩ : law18_Op)).Entry).length c36]) (y := (a1.getD (x17 : Int).toNat (⟨0, [], [], [], 0, []⟩ : law18_Op)).Entry) (fun Z hp => ⟨A35, c36, rfl, pat hp 4 rfl⟩) SayL.nil)) c167
                     refine d1 21 rfl (by kernel_rfl) (qv F (hr _ _ _ _ _) fun a F => ?_)
                     have HS := H.fx3.fx2.fx1.fx0
                     refine kg _ HS (fun w S => S) ?_
                     replace H := (H.f4.f4.f4.f3.f4).freeze
                     replace H := (H).freeze
                     obtain ⟨x170, e171, k_111⟩ := Option.bind_eq_some_iff.1 k_111
                     try dsimp only at k_111
                     refine d1 22 rfl (by kernel_rfl) (call F Try.func19 (ref17_SameRows_ok (H.p0.p2) e171) rfl rfl fun v w hR a F => ?_)
                     obtain ⟨rfl, H⟩ := hR
                     have HS := H.fx1.fx0
                     refine kg _ HS (fun w S => S.px1.px0) ?_
                     refine dq 23 F rfl (by kernel_rfl) NP HS (fun w S => (r_not (F.t 166 rfl))) fun a F => ?_
                     refine dq 24 F rfl (by kernel_rfl) NP HS (fun w S => (r_pickT (F.t 156 rfl) (F.t 167 rfl))) fun a F => ?_
                     refine ddone (by kernel_rfl) ?_
                     replace F := F.only [168, 1, 5, 6, 7, 8, 9, 10, 16, 17] (l' := [(168, .bool (!x170)), (1, .slice A1_ a1.length c1_), (5, .bool x1), (6, .pointer (some ⟨g6, 0, none⟩)), (7, .pointer (some ⟨g55, 0, none⟩)), (8, .bool x60), (9, .bool x61), (10, .int .i64 x17), (16, .int .i64 x52), (17, .bool x89)]) rfl
                     try dsimp only at k_111
                     obtain rfl := Option.some.inj k_111
                     exact ⟨_, rfl, F.only [1, 5, 6, 7, 8, 9, 10, 16, 17, 168] rfl, H.px7.px6.px5.px4.px3.px1.px0.fx2⟩
                   ·skip
                    refine lbs F H (e := 29) (vs := [(0, .slice A35 ((a1.getD (x17 : Int).toNat (⟨0, [], [], [], 0, []⟩ : law18_Op)).Entry).length c36)]) (cs := [.slice A35 ((a1.getD (x17 : Int).toNat (⟨0, [], [], [], 0, []⟩ : law18_Op)).Entry).length c36]) rfl (fun w => by kernel_rfl) fun g172 w a H F => ?_
                    have HS := H.fx3.fx2.fx1.fx0
                    refine kg _ HS (fun w S => S) ?_
                    obtain ⟨x173, e174, k_111⟩ := Option.bind_eq_some_iff.1 k_111
                    try dsimp only at k_111
                    refine d1 14 rfl (by kernel_rfl) (call F Try.func15 (store_Store_Entries_ok (H.f4.f4.f3.f3.f4) e174) rfl rfl fun v w hR a F => ?_)
                    obtain ⟨A175, c176, rfl, H⟩ := hR
                    have HS := H.fx4.fx3.fx2.fx1.fx0
                    refine kg _ HS (fun w S => S) ?_
                    replace H := Hp.litOwn (kd := (kSlice kByte)) (xs := []) (H.f5.f5.f4.f4.f4.f5) (SayL.nil) (Nat.le_of_ble_eq_true rfl)
                    obtain ⟨c177, k_111⟩ := guardO k_111
                    obtain ⟨A178, c179, _, hr, H⟩ := Hp.appendRd (kd := (kSlice kByte)) (xs := []) (ys := x40) (H) 1 rfl (F.t 159 rfl) (F.t 160 rfl) Try.underlying30 ti29 rfl (by decide) (by decide) c177
                    rw [List.nil_append] at hr H
                    refine d1 17 rfl (by kernel_rfl) (qv F (hr _ _ _ _ _) fun a F => ?_)
                    have HS := H.fx4.fx3.fx2.fx1.fx0
                    refine kg _ HS (fun w S => S) ?_
                    obtain ⟨c180, k_111⟩ := guardO k_111
                    obtain ⟨A181, c182, _, hr, H⟩ := Hp.appendCelL (kd := (kSlice kByte)) (xs := x40) (ys := [(a1.getD (x17 : Int).toNat (⟨0, [], [], [], 0, []⟩ : law18_Op)).Entry]) (H.f5.f5.f4.f4.f5.f5) (F.t 161 rfl) (F.t 164 rfl) Try.underlying30 ti29 rfl (by decide) (by decide) rfl ((SayL.cons (kd := (kSlice kByte)) (c1 := [.slice A35 ((a1.getD (x17 : Int).toNat (⟨0, [], [], [], 0, []⟩ : law18_Op)).Entry).length c36]) (y := (a1.getD (x17 : Int).toNat (⟨0, [], [], [], 0, []⟩ : law18_Op)).Entry) (fun Z hp => ⟨A35, c36, rfl, pat hp 4 rfl⟩) SayL.nil)) c180
                    refine d1 21 rfl (by kernel_rfl) (qv F (hr _ _ _ _ _) fun a F => ?_)
                    have HS := H.fx3.fx2.fx1.fx0
                    refine kg _ HS (fun w S => S) ?_
                    replace H := (H.f4.f4.f4.f3.f4).freeze
                    replace H := (H).freeze
                    obtain ⟨x183, e184, k_111⟩ := Option.bind_eq_some_iff.1 k_111
                    try dsimp only at k_111
                    refine d1 22 rfl (by kernel_rfl) (call F Try.func19 (ref17_SameRows_ok (H.p0.p2) e184) rfl rfl fun v w hR a F => ?_)
                    obtain ⟨rfl, H⟩ := hR
                    have HS := H.fx1.fx0
                    refine kg _ HS (fun w S => S.px1.px0) ?_
                    refine dq 23 F rfl (by kernel_rfl) NP HS (fun w S => (r_not (F.t 166 rfl))) fun a F => ?_
                    refine dq 24 F rfl (by kernel_rfl) NP HS (fun w S => (r_pickT (F.t 156 rfl) (F.t 167 rfl))) fun a F => ?_
                    refine ddone (by kernel_rfl) ?_
                    replace F := F.only [168, 1, 5, 6, 7, 8, 9, 10, 16, 17] (l' := [(168, .bool (!x183)), (1, .slice A1_ a1.length c1_), (5, .bool x1), (6, .pointer (some ⟨g6, 0, none⟩)), (7, .pointer (some ⟨g55, 0, none⟩)), (8, .bool x60), (9, .bool x61), (10, .int .i64 x17), (16, .int .i64 x52), (17, .bool x89)]) rfl
                    try dsimp only at k_111
                    obtain rfl := Option.some.inj k_111
                    exact ⟨_, rfl, F.only [1, 5, 6, 7, 8, 9, 10, 16, 17, 168] rfl, H.px7.px6.px5.px4.px3.px1.px0.fx2⟩
                  ·skip
                   refine lbs F H (e := 29) (vs := [(0, .slice A35 ((a1.getD (x17 : Int).toNat (⟨0, [], [], [], 0, []⟩ : law18_Op)).Entry).length c36)]) (cs := [.slice A35 ((a1.getD (x17 : Int).toNat (⟨0, [], [], [], 0, []⟩ : law18_Op)).Entry).length c36]) rfl (fun w => by kernel_rfl) fun g185 w a H F => ?_
                   have HS := H.fx2.fx1.fx0
                   refine kg _ HS (fun w S => S) ?_
                   refine d2 14 15 rfl rfl (by kernel_rfl) ?_ ?_
                   ·skip
                    obtain ⟨x186, e187, k_111⟩ := Option.bind_eq_some_iff.1 k_111
                    try dsimp only at k_111
                    refine call F Try.func15 (store_Store_Entries_ok (H.f3.f3.f2.f3) e187) rfl rfl fun v w hR a F => ?_
                    obtain ⟨A188, c189, rfl, H⟩ := hR
                    have HS := H.fx3.fx2.fx1.fx0
                    refine kg _ HS (fun w S => S) ?_
                    refine d1 15 rfl (by kernel_rfl) (lbs F H (e := 29) (vs := []) (cs := []) rfl (fun w => by kernel_rfl) fun g190 w a H F => ?_)
                    have HS := H.fx4.fx3.fx2.fx1.fx0
                    refine kg _ HS (fun w S => S) ?_
                    replace H := Hp.litOwn (kd := (kSlice kByte)) (xs := []) (H) (SayL.nil) (Nat.le_of_ble_eq_true rfl)
                    obtain ⟨c191, k_111⟩ := guardO k_111
                    obtain ⟨A192, c193, _, hr, H⟩ := Hp.appendRd (kd := (kSlice kByte)) (xs := []) (ys := x40) (H) 1 rfl (F.t 159 rfl) (F.t 160 rfl) Try.underlying30 ti29 rfl (by decide) (by decide) c191
                    rw [List.nil_append] at hr H
                    refine d1 17 rfl (by kernel_rfl) (qv F (hr _ _ _ _ _) fun a F => ?_)
                    have HS := H.fx4.fx3.fx2.fx1.fx0
                    refine kg _ HS (fun w S => S) ?_
                    obtain ⟨c194, k_111⟩ := guardO k_111
                    obtain ⟨A195, c196, _, hr, H⟩ := Hp.appendCelL (kd := (kSlice kByte)) (xs := x40) (ys := [(a1.getD (x17 : Int).toNat (⟨0, [], [], [], 0, []⟩ : law18_Op)).Entry]) (H.f5.f5.f4.f4.f5.f5) (F.t 161 rfl) (F.t 164 rfl) Try.underlying30 ti29 rfl (by decide) (by decide) rfl ((SayL.cons (kd := (kSlice kByte)) (c1 := [.slice A35 ((a1.getD (x17 : Int).toNat (⟨0, [], [], [], 0, []⟩ : law18_Op)).Entry).length c36]) (y := (a1.getD (x17 : Int).toNat (⟨0, [], [], [], 0, []⟩ : law18_Op)).Entry) (fun Z hp => ⟨A35, c36, rfl, pat hp 4 rfl⟩) SayL.nil)) c194
                    refine d1 21 rfl (by kernel_rfl) (qv F (hr _ _ _ _ _) fun a F => ?_)
                    have HS := H.fx3.fx2.fx1.fx0
                    refine kg _ HS (fun w S => S) ?_
                    replace H := (H.f4.f4.f4.f3.f4).freeze
                    replace H := (H).freeze
                    obtain ⟨x197, e198, k_111⟩ := Option.bind_eq_some_iff.1 k_111
                    try dsimp only at k_111
                    refine d1 22 rfl (by kernel_rfl) (call F Try.func19 (ref17_SameRows_ok (H.p0.p2) e198) rfl rfl fun v w hR a F => ?_)
                    obtain ⟨rfl, H⟩ := hR
                    have HS := H.fx1.fx0
                    refine kg _ HS (fun w S => S.px1.px0) ?_
                    refine dq 23 F rfl (by kernel_rfl) NP HS (fun w S => (r_not (F.t 166 rfl))) fun a F => ?_
                    refine dq 24 F rfl (by kernel_rfl) NP HS (fun w S => (r_pickT (F.t 156 rfl) (F.t 167 rfl))) fun a F => ?_
                    refine ddone (by kernel_rfl) ?_
                    replace F := F.only [168, 1, 5, 6, 7, 8, 9, 10, 16, 17] (l' := [(168, .bool (!x197)), (1, .slice A1_ a1.length c1_), (5, .bool x1), (6, .pointer (some ⟨g6, 0, none⟩)), (7, .pointer (some ⟨g55, 0, none⟩)), (8, .bool x60), (9, .bool x61), (10, .int .i64 x17), (16, .int .i64 x52), (17, .bool x89)]) rfl
                    try dsimp only at k_111
                    obtain rfl := Option.some.inj k_111
                    exact ⟨_, rfl, F.only [1, 5, 6, 7, 8, 9, 10, 16, 17, 168] rfl, H.px7.px6.px5.px4.px3.px1.px0.fx2⟩
                   ·skip
                    refine lbs F H (e := 29) (vs := []) (cs := []) rfl (fun w => by kernel_rfl) fun g199 w a H F => ?_
                    have HS := H.fx3.fx2.fx1.fx0
                    refine kg _ HS (fun w S => S) ?_
                    obtain ⟨x200, e201, k_111⟩ := Option.bind_eq_some_iff.1 k_111
                    try dsimp only at k_111
                    refine d1 14 rfl (by kernel_rfl) (call F Try.func15 (store_Store_Entries_ok (H.f4.f4.f3.f3.f4) e201) rfl rfl fun v w hR a F => ?_)
                    obtain ⟨A202, c203, rfl, H⟩ := hR
                    have HS := H.fx4.fx3.fx2.fx1.fx0
                    refine kg _ HS (fun w S => S) ?_
                    replace H := Hp.litOwn (kd := (kSlice kByte)) (xs := []) (H.f5.f5.f5.f4.f4.f5) (SayL.nil) (Nat.le_of_ble_eq_true rfl)
                    obtain ⟨c204, k_111⟩ := guardO k_111
                    obtain ⟨A205, c206, _, hr, H⟩ := Hp.appendRd (kd := (kSlice kByte)) (xs := []) (ys := x40) (H) 1 rfl (F.t 159 rfl) (F.t 160 rfl) Try.underlying30 ti29 rfl (by decide) (by decide) c204
                    rw [List.nil_append] at hr H
                    refine d1 17 rfl (by kernel_rfl) (qv F (hr _ _ _ _ _) fun a F => ?_)
                    have HS := H.fx4.fx3.fx2.fx1.fx0
                    refine kg _ HS (fun w S => S) ?_
                    obtain ⟨c207, k_111⟩ := guardO k_111
                    obtain ⟨A208, c209, _, hr, H⟩ := Hp.appendCelL (kd := (kSlice kByte)) (xs := x40) (ys := [(a1.getD (x17 : Int).toNat (⟨0, [], [], [], 0, []⟩ : law18_Op)).Entry]) (H.f5.f5.f4.f4.f5.f5) (F.t 161 rfl) (F.t 164 rfl) Try.underlying30 ti29 rfl (by decide) (by decide) rfl ((SayL.cons (kd := (kSlice kByte)) (c1 := [.slice A35 ((a1.getD (x17 : Int).toNat (⟨0, [], [], [], 0, []⟩ : law18_Op)).Entry).length c36]) (y := (a1.getD (x17 : Int).toNat (⟨0, [], [], [], 0, []⟩ : law18_Op)).Entry) (fun Z hp => ⟨A35, c36, rfl, pat hp 4 rfl⟩) SayL.nil)) c207
                    refine d1 21 rfl (by kernel_rfl) (qv F (hr _ _ _ _ _) fun a F => ?_)
                    have HS := H.fx3.fx2.fx1.fx0
                    refine kg _ HS (fun w S => S) ?_
                    replace H := (H.f4.f4.f4.f3.f4).freeze
                    replace H := (H).freeze
                    obtain ⟨x210, e211, k_111⟩ := Option.bind_eq_some_iff.1 k_111
                    try dsimp only at k_111
                    refine d1 22 rfl (by kernel_rfl) (call F Try.func19 (ref17_SameRows_ok (H.p0.p2) e211) rfl rfl fun v w hR a F => ?_)
                    obtain ⟨rfl, H⟩ := hR
                    have HS := H.fx1.fx0
                    refine kg _ HS (fun w S => S.px1.px0) ?_
                    refine dq 23 F rfl (by kernel_rfl) NP HS (fun w S => (r_not (F.t 166 rfl))) fun a F => ?_
                    refine dq 24 F rfl (by kernel_rfl) NP HS (fun w S => (r_pickT (F.t 156 rfl) (F.t 167 rfl))) fun a F => ?_
                    refine ddone (by kernel_rfl) ?_
                    replace F := F.only [168, 1, 5, 6, 7, 8, 9, 10, 16, 17] (l' := [(168, .bool (!x210)), (1, .slice A1_ a1.length c1_), (5, .bool x1), (6, .pointer (some ⟨g6, 0, none⟩)), (7, .pointer (some ⟨g55, 0, none⟩)), (8, .bool x60), (9, .bool x61), (10, .int .i64 x17), (16, .int .i64 x52), (17, .bool x89)]) rfl
                    try dsimp only at k_111
                    obtain rfl := Option.some.inj k_111
                    exact ⟨_, rfl, F.only [1, 5, 6, 7, 8, 9, 10, 16, 17, 168] rfl, H.px7.px6.px5.px4.px3.px1.px0.fx2⟩
                 ·rw [if_neg c115] at k_111
                  rw [decide_eq_false c115] at F
                  refine doff 13 F rfl (by kernel_rfl) NP HS fun a F => ?_
                  refine doff 14 F rfl (by kernel_rfl) NP HS fun a F => ?_
                  refine doff 15 F rfl (by kernel_rfl) NP HS fun a F => ?_
                  refine doff 16 F rfl (by kernel_rfl) NP HS fun a F => ?_
                  refine doff 17 F rfl (by kernel_rfl) NP HS fun a F => ?_
                  refine doff 18 F rfl (by kernel_rfl) NP HS fun a F => ?_
                  refine doff 19 F rfl (by kernel_rfl) NP HS fun a F => ?_
                  refine doff 20 F rfl (by kernel_rfl) NP HS fun a F => ?_
                  refine doff 21 F rfl (by kernel_rfl) NP HS fun a F => ?_
                  refine doff 22 F rfl (by kernel_rfl) NP HS fun a F => ?_
                  refine doff 23 F rfl (by kernel_rfl) NP HS fun a F => ?_
                  refine dq 24 F rfl (by kernel_rfl) NP HS (fun w S => (r_pickF (F.t 156 rfl) (F.ev (x := .const (.bool false)) rfl))) fun a F => ?_
                  refine ddone (by kernel_rfl) ?_
                  replace F := F.only [168, 1, 5, 6, 7, 8, 9, 10, 16, 17] (l' := [(168, .bool false), (1, .slice A1_ a1.length c1_), (5, .bool x1), (6, .pointer (some ⟨g6, 0, none⟩)), (7, .pointer (some ⟨g55, 0, none⟩)), (8, .bool x60), (9, .bool x61), (10, .int .i64 x17), (16, .int .i64 x52), (17, .bool x89)]) rfl
                  try dsimp only at k_111
                  obtain rfl := Option.some.inj k_111
                  exact ⟨_, rfl, F.only [1, 5, 6, 7, 8, 9, 10, 16, 17, 168] rfl, H.px5.px4.px3.px2.px1.fx2⟩
                ·rw [if_neg c114] at k_111
                 rw [decide_eq_false c114] at F
                 refine doff 9 F rfl (by kernel_rfl) NP HS fun a F => ?_
                 refine doff 10 F rfl (by kernel_rfl) NP HS fun a F => ?_
                 refine dq 11 F rfl (by kernel_rfl) NP HS (fun w S => (r_pickF (F.t 152 rfl) (F.ev (x := .const (.bool false)) rfl))) fun a F => ?_
                 refine dq 12 F rfl (by kernel_rfl) NP HS (fun w S => (r_mv (F.t 155 rfl))) fun a F => ?_
                 refine doff 13 F rfl (by kernel_rfl) NP HS fun a F => ?_
                 refine doff 14 F rfl (by kernel_rfl) NP HS fun a F => ?_
                 refine doff 15 F rfl (by kernel_rfl) NP HS fun a F => ?_
                 refine doff 16 F rfl (by kernel_rfl) NP HS fun a F => ?_
                 refine doff 17 F rfl (by kernel_rfl) NP HS fun a F => ?_
                 refine doff 18 F rfl (by kernel_rfl) NP HS fun a F => ?_
                 refine doff 19 F rfl (by kernel_rfl) NP HS fun a F => ?_
                 refine doff 20 F rfl (by kernel_rfl) NP HS fun a F => ?_
                 refine doff 21 F rfl (by kernel_rfl) NP HS fun a F => ?_
                 refine doff 22 F rfl (by kernel_rfl) NP HS fun a F => ?_
                 refine doff 23 F rfl (by kernel_rfl) NP HS fun a F => ?_
                 refine dq 24 F rfl (by kernel_rfl) NP HS (fun w S => (r_pickF (F.t 156 rfl) (F.ev (x := .const (.bool false)) rfl))) fun a F => ?_
                 refine ddone (by kernel_rfl) ?_
                 replace F := F.only [168, 1, 5, 6, 7, 8, 9, 10, 16, 17] (l' := [(168, .bool false), (1, .slice A1_ a1.length c1_), (5, .bool x1), (6, .pointer (some ⟨g6, 0, none⟩)), (7, .pointer (some ⟨g55, 0, none⟩)), (8, .bool x60), (9, .bool x61), (10, .int .i64 x17), (16, .int .i64 x52), (17, .bool x89)]) rfl
                 try dsimp only at k_111
                 obtain rfl := Option.some.inj k_111
                 exact ⟨_, rfl, F.only [1, 5, 6, 7, 8, 9, 10, 16, 17, 168] rfl, H.px5.px4.px3.px2.px1.fx2⟩
               ·rw [if_neg c113] at k_111
                rw [decide_eq_false c113] at F
                refine doff 4 F rfl (by kernel_rfl) NP HS fun a F => ?_
                refine doff 5 F rfl (by kernel_rfl) NP HS fun a F => ?_
                refine doff 6 F rfl (by kernel_rfl) NP HS fun a F => ?_
                refine dq 7 F rfl (by kernel_rfl) NP HS (fun w S => (r_pickF (F.t 147 rfl) (F.ev (x := .const (.bool false)) rfl))) fun a F => ?_
                refine dq 8 F rfl (by kernel_rfl) NP HS (fun w S => (r_mv (F.t 151 rfl))) fun a F => ?_
                refine doff 9 F rfl (by kernel_rfl) NP HS fun a F => ?_
                refine doff 10 F rfl (by kernel_rfl) NP HS fun a F => ?_
                refine dq 11 F rfl (by kernel_rfl) NP HS (fun w S => (r_pickF (F.t 152 rfl) (F.ev (x := .const (.bool false)) rfl))) fun a F => ?_
                refine dq 12 F rfl (by kernel_rfl) NP HS (fun w S => (r_mv (F.t 155 rfl))) fun a F => ?_
                refine doff 13 F rfl (by kernel_rfl) NP HS fun a F => ?_
                refine doff 14 F rfl (by kernel_rfl) NP HS fun a F => ?_
                refine doff 15 F rfl (by kernel_rfl) NP HS fun a F => ?_
                refine doff 16 F rfl (by kernel_rfl) NP HS fun a F => ?_
                refine doff 17 F rfl (by kernel_rfl) NP HS fun a F => ?_
                refine doff 18 F rfl (by kernel_rfl) NP HS fun a F => ?_
                refine doff 19 F rfl (by kernel_rfl) NP HS fun a F => ?_
                refine doff 20 F rfl (by kernel_rfl) NP HS fun a F => ?_
                refine doff 21 F rfl (by kernel_rfl) NP HS fun a F => ?_
                refine doff 22 F rfl (by kernel_rfl) NP HS fun a F => ?_
                refine doff 23 F rfl (by kernel_rfl) NP HS fun a F => ?_
                refine dq 24 F rfl (by kernel_rfl) NP HS (fun w S => (r_pickF (F.t 156 rfl) (F.ev (x := .const (.bool false)) rfl))) fun a F => ?_
                refine ddone (by kernel_rfl) ?_
                replace F := F.only [168, 1, 5, 6, 7, 8, 9, 10, 16, 17] (l' := [(168, .bool false), (1, .slice A1_ a1.length c1_), (5, .bool x1), (6, .pointer (some ⟨g6, 0, none⟩)), (7, .pointer (some ⟨g55, 0, none⟩)), (8, .bool x60), (9, .bool x61), (10, .int .i64 x17), (16, .int .i64 x52), (17, .bool x89)]) rfl
                try dsimp only at k_111
                obtain rfl := Option.some.inj k_111
                exact ⟨_, rfl, F.only [1, 5, 6, 7, 8, 9, 10, 16, 17, 168] rfl, H.px5.px4.px3.px2.px1.fx2⟩
              ·rintro a w ⟨x111, rfl, F, H⟩
               try dsimp only at j_21 F H
               by_cases c212 : x111 = true
               ·rw [if_pos c212] at j_21
                rw [c212] at F
                refine wp_cond_true (F.ev rfl) ?_
                refine rg ?_
                refine as_ F (v := .bool false) rfl fun a F => ?_
                refine rgend ?_
                replace F := F.only [4] (l' := [(4, .bool false)]) rfl
                refine wp_ret ?_
                try dsimp only at j_21
                obtain rfl := Option.some.inj j_21
                obtain rfl := u_21 _ rfl
                try dsimp only at h
                obtain rfl := Option.some.inj h
                exact RET _ _ (ret1 F rfl rfl ⟨_, rfl, rfl, H.px0.fx1.fx0⟩)
               ·rw [if_neg c212] at j_21
                rw [Bool.eq_false_iff.2 c212] at F
                refine wp_cond_false (F.ev rfl) ?_
                refine wp_skip ?_
                refine wp_seq ?_
                obtain ⟨o_214, k_214, j_21⟩ := Option.bind_eq_some_iff.1 j_21
                refine cut (fun a w => ∃ (x213 : Bool) (x214 : Bool), (x213, x214) = o_214 ∧ Fr 194 [] [(1, .slice A1_ a1.length c1_), (5, .bool x1), (6, .pointer (some ⟨g6, 0, none⟩)), (7, .pointer (some ⟨g55, 0, none⟩)), (8, .bool x213), (9, .bool x61), (10, .int .i64 x17), (16, .int .i64 x52), (17, .bool x214)] a ∧ Hp w0 (rd k_law18_Op A1_ c1_ a1 :: ps) (obj_store_Store g55 g6 x51 :: obj_disk_Disk g6 x53 :: fs) w) ?_ ?_
                ·skip
                 refine wp_region_lit ?_
                 refine mv F rfl fun a F => ?_
                 refine mv F rfl fun a F => ?_
                 by_cases c216 : x60 = true
                 ·rw [if_pos c216] at k_214
                  rw [c216] at F
                  refine of_ F fun a F => ?_
                  refine of_ F fun a F => ?_
                  refine of_ F fun a F => ?_
                  refine of_ F fun a F => ?_
                  refine of_ F fun a F => ?_
                  refine qw F (r_pickT (F.t 170 rfl) (F.ev (x := .const (.bool true)) rfl)) fun a F => ?_
                  refine as_ F rfl fun a F => ?_
                  refine wpList_nil ?_
                  replace F := F.only [8, 1, 5, 6, 7, 9, 10, 16, 17] (l' := [(8, .bool true), (1, .slice A1_ a1.length c1_), (5, .bool x1), (6, .pointer (some ⟨g6, 0, none⟩)), (7, .pointer (some ⟨g55, 0, none⟩)), (9, .bool x61), (10, .int .i64 x17), (16, .int .i64 x52), (17, .bool x89)]) rfl
                  try dsimp only at k_214
                  obtain rfl := Option.some.inj k_214
                  exact ⟨_, _, rfl, F.only [1, 5, 6, 7, 8, 9, 10, 16, 17] rfl, H⟩
                 ·rw [if_neg c216] at k_214
                  rw [Bool.eq_false_iff.2 c216] at F
                  refine mv F rfl fun a F => ?_
                  refine mv F rfl fun a F => ?_
                  by_cases c217 : x89 = true
                  ·rw [if_pos c217] at k_214
                   rw [c217] at F
                   refine mv F rfl fun a F => ?_
                   refine qw F (r_eq (F.t 173 rfl) (F.ev (x := .const (.int .i64 0)) rfl)) fun a F => ?_
                   refine qw F (r_pickT (F.t 172 rfl) (F.t 174 rfl)) fun a F => ?_
                   refine qw F (r_pickF (F.t 170 rfl) (F.t 175 rfl)) fun a F => ?_
                   refine as_ F rfl fun a F => ?_
                   refine wpList_nil ?_
                   replace F := F.only [8, 1, 5, 6, 7, 9, 10, 16, 17] (l' := [(8, .bool (decide (x52 = 0))), (1, .slice A1_ a1.length c1_), (5, .bool x1), (6, .pointer (some ⟨g6, 0, none⟩)), (7, .pointer (some ⟨g55, 0, none⟩)), (9, .bool x61), (10, .int .i64 x17), (16, .int .i64 x52), (17, .bool true)]) rfl
                   try dsimp only at k_214
                   obtain rfl := Option.some.inj k_214
                   exact ⟨_, _, rfl, F.only [1, 5, 6, 7, 8, 9, 10, 16, 17] rfl, H⟩
                  ·rw [if_neg c217] at k_214
                   rw [Bool.eq_false_iff.2 c217] at F
                   refine of_ F fun a F => ?_
                   refine of_ F fun a F => ?_
                   refine qw F (r_pickF (F.t 172 rfl) (F.ev (x := .const (.bool false)) rfl)) fun a F => ?_
                   refine qw F (r_pickF (F.t 170 rfl) (F.t 175 rfl)) fun a F => ?_
                   refine as_ F rfl fun a F => ?_
                   refine wpList_nil ?_
                   replace F := F.only [8, 1, 5, 6, 7, 9, 10, 16, 17] (l' := [(8, .bool false), (1, .slice A1_ a1.length c1_), (5, .bool x1), (6, .pointer (some ⟨g6, 0, none⟩)), (7, .pointer (some ⟨g55, 0, none⟩)), (9, .bool x61), (10, .int .i64 x17), (16, .int .i64 x52), (17, .bool false)]) rfl
                   try dsimp only at k_214
                   obtain rfl := Option.some.inj k_214
                   exact ⟨_, _, rfl, F.only [1, 5, 6, 7, 8, 9, 10, 16, 17] rfl, H⟩
                ·rintro a w ⟨x213, x214, rfl, F, H⟩
                 try dsimp only at j_21 F H
                 refine wp_region_lit ?_
                 refine mv F rfl fun a F => ?_
                 refine mv F rfl fun a F => ?_
                 by_cases c218 : x61 = true
                 ·rw [if_pos c218] at j_21
                  rw [c218] at F
                  refine of_ F fun a F => ?_
                  refine of_ F fun a F => ?_
                  refine of_ F fun a F => ?_
                  refine of_ F fun a F => ?_
                  refine of_ F fun a F => ?_
                  refine of_ F fun a F => ?_
                  refine of_ F fun a F => ?_
                  refine of_ F fun a F => ?_
                  refine of_ F fun a F => ?_
                  refine qw F (r_pickT (F.t 178 rfl) (F.ev (x := .const (.bool true)) rfl)) fun a F => ?_
                  refine as_ F rfl fun a F => ?_
                  refine wpList_nil ?_
                  replace F := F.only [9, 1, 5, 6, 7, 8, 10] (l' := [(9, .bool true), (1, .slice A1_ a1.length c1_), (5, .bool x1), (6, .pointer (some ⟨g6, 0, none⟩)), (7, .pointer (some ⟨g55, 0, none⟩)), (8, .bool x213), (10, .int .i64 x17)]) rfl
                  refine wp_region_lit ?_
                  refine mv F rfl fun a F => ?_
                  refine qw F (r_add (F.t 43 rfl) (F.ev (x := .const (.int .i64 1)) rfl)) fun a F => ?_
                  refine as_ F rfl fun a F => ?_
                  refine wpList_nil ?_
                  try dsimp only at j_21
                  obtain rfl := Option.some.inj j_21
                  exact ⟨_, rfl, g55, F.only [1, 5, 6, 7, 8, 9, 10] rfl, H⟩
                 ·rw [if_neg c218] at j_21
                  rw [Bool.eq_false_iff.2 c218] at F
                  refine mv F rfl fun a F => ?_
                  refine mv F rfl fun a F => ?_
                  by_cases c219 : x214 = true
                  ·rw [if_pos c219] at j_21
                   rw [c219] at F
                   refine mv F rfl fun a F => ?_
                   refine qw F (r_ne (F.t 181 rfl) (F.ev (x := .const (.int .i64 0)) rfl)) fun a F => ?_
                   refine qw F (r_pickT (F.t 180 rfl) (F.t 182 rfl)) fun a F => ?_
                   refine mv F rfl fun a F => ?_
                   by_cases c220 : x52 ≠ 0
                   ·rw [if_pos c220] at j_21
                    rw [decide_eq_true c220] at F
                    refine mv F rfl fun a F => ?_
                    refine qw F (r_ne (F.t 185 rfl) (F.ev (x := .const (.int .i64 1)) rfl)) fun a F => ?_
                    refine qw F (r_pickT (F.t 184 rfl) (F.t 186 rfl)) fun a F => ?_
                    refine qw F (r_pickF (F.t 178 rfl) (F.t 187 rfl)) fun a F => ?_
                    refine as_ F rfl fun a F => ?_
                    refine wpList_nil ?_
                    replace F := F.only [9, 1, 5, 6, 7, 8, 10] (l' := [(9, .bool (decide (x52 ≠ 1))), (1, .slice A1_ a1.length c1_), (5, .bool x1), (6, .pointer (some ⟨g6, 0, none⟩)), (7, .pointer (some ⟨g55, 0, none⟩)), (8, .bool x213), (10, .int .i64 x17)]) rfl
                    refine wp_region_lit ?_
                    refine mv F rfl fun a F => ?_
                    refine qw F (r_add (F.t 43 rfl) (F.ev (x := .const (.int .i64 1)) rfl)) fun a F => ?_
                    refine as_ F rfl fun a F => ?_
                    refine wpList_nil ?_
                    try dsimp only at j_21
                    obtain rfl := Option.some.inj j_21
                    exact ⟨_, rfl, g55, F.only [1, 5, 6, 7, 8, 9, 10] rfl, H⟩
                   ·rw [if_neg c220] at j_21
                    rw [decide_eq_false c220] at F
                    refine of_ F fun a F => ?_
                    refine of_ F fun a F => ?_
                    refine qw F (r_pickF (F.t 184 rfl) (F.ev (x := .const (.bool false)) rfl)) fun a F => ?_
                    refine qw F (r_pickF (F.t 178 rfl) (F.t 187 rfl)) fun a F => ?_
                    refine as_ F rfl fun a F => ?_
                    refine wpList_nil ?_
                    replace F := F.only [9, 1, 5, 6, 7, 8, 10] (l' := [(9, .bool false), (1, .slice A1_ a1.length c1_), (5, .bool x1), (6, .pointer (some ⟨g6, 0, none⟩)), (7, .pointer (some ⟨g55, 0, none⟩)), (8, .bool x213), (10, .int .i64 x17)]) rfl
                    refine wp_region_lit ?_
                    refine mv F rfl fun a F => ?_
                    refine qw F (r_add (F.t 43 rfl) (F.ev (x := .const (.int .i64 1)) rfl)) fun a F => ?_
                    refine as_ F rfl fun a F => ?_
                    refine wpList_nil ?_
                    try dsimp only at j_21
                    obtain rfl := Option.some.inj j_21
                    exact ⟨_, rfl, g55, F.only [1, 5, 6, 7, 8, 9, 10] rfl, H⟩
                  ·rw [if_neg c219] at j_21
                   rw [Bool.eq_false_iff.2 c219] at F
                   refine of_ F fun a F => ?_
                   refine of_ F fun a F => ?_
                   refine qw F (r_pickF (F.t 180 rfl) (F.ev (x := .const (.bool false)) rfl)) fun a F => ?_
                   refine mv F rfl fun a F => ?_
                   refine of_ F fun a F => ?_
                   refine of_ F fun a F => ?_
                   refine qw F (r_pickF (F.t 184 rfl) (F.ev (x := .const (.bool false)) rfl)) fun a F => ?_
                   refine qw F (r_pickF (F.t 178 rfl) (F.t 187 rfl)) fun a F => ?_
                   refine as_ F rfl fun a F => ?_
                   refine wpList_nil ?_
                   replace F := F.only [9, 1, 5, 6, 7, 8, 10] (l' := [(9, .bool false), (1, .slice A1_ a1.length c1_), (5, .bool x1), (6, .pointer (some ⟨g6, 0, none⟩)), (7, .pointer (some ⟨g55, 0, none⟩)), (8, .bool x213), (10, .int .i64 x17)]) rfl
                   refine wp_region_lit ?_
                   refine mv F rfl fun a F => ?_
                   refine qw F (r_add (F.t 43 rfl) (F.ev (x := .const (.int .i64 1)) rfl)) fun a F => ?_
                   refine as_ F rfl fun a F => ?_
                   refine wpList_nil ?_
                   try dsimp only at j_21
                   obtain rfl := Option.some.inj j_21
                   exact ⟨_, rfl, g55, F.only [1, 5, 6, 7, 8, 9, 10] rfl, H⟩
     ·rw [if_neg c26] at j_21
      rw [Bool.eq_false_iff.2 c26] at F
      refine wp_cond_false (F.ev rfl) ?_
      refine wp_exit ?_
      try dsimp only at j_21
      obtain rfl := Option.some.inj j_21
      obtain rfl := u_21 _ rfl
      repeat (with_reducible refine exT ?_)
      with_reducible refine exB ?_
      exact ⟨_, _, rfl, g13, F.only [5, 7] rfl, H.px0⟩
   ·rintro a w ⟨x20, x21, rfl, g19, F, H⟩
    try dsimp only at h F H
    refine wp_seq ?_
    obtain ⟨o_221, k_221, h⟩ := Option.bind_eq_some_iff.1 h
    refine cut (fun a w => ∃ (x221 : Bool), x221 = o_221 ∧ Fr 194 [] [(4, .bool x221)] a ∧ Hp w0 ps (obj_store_Store g19 g6 x20 :: obj_disk_Disk g6 x21 :: fs) w) ?_ ?_
    ·skip
     refine wp_region_lit ?_
     refine mv F rfl fun a F => ?_
     refine mv F rfl fun a F => ?_
     by_cases c223 : x1 = true
     ·rw [if_pos c223] at k_221
      rw [c223] at F
      refine mv F rfl fun a F => ?_
      refine qw F (r_pne (F.t 191 rfl) (F.ev (x := .const (.pointer none)) rfl) Try.underlying27) fun a F => ?_
      refine qw F (r_pickT (F.t 190 rfl) (F.t 192 rfl)) fun a F => ?_
      refine as_ F rfl fun a F => ?_
      refine wpList_nil ?_
      replace F := F.only [4] (l' := [(4, .bool true)]) rfl
      try dsimp only at k_221
      obtain rfl := Option.some.inj k_221
      exact ⟨_, rfl, F.only [4] rfl, H⟩
     ·rw [if_neg c223] at k_221
      rw [Bool.eq_false_iff.2 c223] at F
      refine of_ F fun a F => ?_
      refine of_ F fun a F => ?_
      refine qw F (r_pickF (F.t 190 rfl) (F.ev (x := .const (.bool false)) rfl)) fun a F => ?_
      refine as_ F rfl fun a F => ?_
      refine wpList_nil ?_
      replace F := F.only [4] (l' := [(4, .bool false)]) rfl
      try dsimp only at k_221
      obtain rfl := Option.some.inj k_221
      exact ⟨_, rfl, F.only [4] rfl, H⟩
    ·rintro a w ⟨x221, rfl, F, H⟩
     try dsimp only at h F H
     refine wp_ret ?_
     try dsimp only at h
     obtain rfl := Option.some.inj h
     exact RET _ _ (ret1 F rfl rfl ⟨_, rfl, rfl, H.fx1.fx0⟩)
end Go.Proofs.Ytpmkpiffbdcflaa
