/- What the functions compute. Printed by wip/gen. -/
import Derived.Test.YtdkdaggpfgajlaaGL
set_option linter.unusedVariables false
set_option linter.unusedSimpArgs false
namespace Go.Proofs.Ytdkdaggpfgajlaa
open Go Go.RowKit
def law17_RegionTells_b2 : ((List Bool) × Int) → Option ((List Bool) × Int ⊕ List Bool)
  | (x96, x99) => (if x99 < 60 then (if 0 ≤ x99 ∧ x99 < (x96.length : Int) then some (.inl ((x96.set (x99 : Int).toNat true), IntKind.i64.wrap (x99 + 1))) else none) else some (.inr x96))
def law17_RegionTells_b1 (a0 : List api_Sector) (a1 : List Int) : (Int × disk_Disk × ref15_Disk) → Option (Int × disk_Disk × ref15_Disk ⊕ disk_Disk × ref15_Disk)
  | (x39, x40, x41) => (((if x39 < (a0.length : Int) then some ((decide (x39 < (a1.length : Int)))) else some false) : Option (Bool)).bind fun x45 => (if x45 = true then (if 0 ≤ x39 ∧ x39 < (a0.length : Int) then (if 0 ≤ x39 ∧ x39 < (a1.length : Int) then (((if (a1.getD (x39 : Int).toNat 0) > 0 then (if 0 ≤ x39 ∧ x39 < (a1.length : Int) then some ((IntKind.i64.wrap (a1.getD (x39 : Int).toNat 0))) else none) else some (((a0.getD (x39 : Int).toNat (⟨0, 0, 0, 0, []⟩ : api_Sector)).Place))) : Option (Int)).bind fun x60 => (if 0 ≤ x39 ∧ x39 < (a0.length : Int) then ((ref16_Put_f ((a0.getD (x39 : Int).toNat (⟨0, 0, 0, 0, []⟩ : api_Sector)))).bind fun x74 => ((disk_Disk_Write_f x40 x60 x74).bind fun (x78, x79) => (if 0 ≤ x39 ∧ x39 < (a0.length : Int) then ((ref16_Put_f ((a0.getD (x39 : Int).toNat (⟨0, 0, 0, 0, []⟩ : api_Sector)))).bind fun x87 => ((ref15_Disk_Write_f x41 x60 x87).bind fun (x91, x92) => some (.inl (IntKind.i64.wrap (x39 + 1), x79, x92)))) else none))) else none)) else none) else none) else some (.inr (x40, x41))))
def law17_RegionTells_b0 (a0 : List api_Sector) : (Int × Int) → Option (Int × Int ⊕ Int)
  | (x3, x4) => (((if x4 < (a0.length : Int) then some ((decide (x3 < 9000))) else some false) : Option (Bool)).bind fun x7 => (if x7 = true then (if 0 ≤ x4 ∧ x4 < (a0.length : Int) then some (.inl (IntKind.i64.wrap (x3 + (min (((a0.getD (x4 : Int).toNat (⟨0, 0, 0, 0, []⟩ : api_Sector)).Body).length : Int) 9000)), IntKind.i64.wrap (x4 + 1))) else none) else some (.inr x3)))
def law17_RegionTells_f (a0 : List api_Sector) (a1 : List Int) (a2 : Int) (a3 : Int) (a4 : Int) : Option (Bool) :=
  ((law17_head_f).bind fun x1 => ((lp (law17_RegionTells_b0 a0) ((a0.length : Int), 0)).bind fun x5 => (if x5 ≥ 9000 then some x1 else (if (a0.length : Int) > 60 then some x1 else ((law17_within_f a3 a4).bind fun x19 => (if x19 = true then ((((disk_New_f 60).bind fun x27 => match x27 with | none => ((ref15_New_f 60).bind fun x30 => match x30 with | none => some ((.inl ())) | some x32 => some ((.inl ()))) | some x29 => ((ref15_New_f 60).bind fun x35 => match x35 with | none => some ((.inl ())) | some x37 => ((lp (law17_RegionTells_b1 a0 a1) (0, x29, x37)).bind fun (x42, x43) => (if 0 ≤ (60 : Int) ∧ 1 * (60 : Int) ≤ 281474976710656 then ((lp law17_RegionTells_b2 (List.replicate (60 : Int).toNat false, 0)).bind fun x100 => ((disk_Disk_Crash_f x42 x100 a2).bind fun x110 => ((ref15_Disk_Crash_f x43 x100 a2).bind fun x112 => some ((.inr (x110, x112)))))) else none)))) : Option (Unit ⊕ (disk_Disk × ref15_Disk))).bind fun o => match o with | .inl _ => some false | .inr (x23, x25) => ((region_Read_f x23 a3 a4).bind fun (x114, x115) => ((ref17_Read_f x25 a3 a4).bind fun (x124, x125) => (((if x1 = true then ((ref17_Same_f x114 x124).bind fun x137 => (if x137 = true then (if (x115 == x125) = true then ((region_Greatest_f x23 a3 a4).bind fun x141 => ((ref17_Greatest_f x25 a3 a4).bind fun x143 => some ((decide (x141 = x143))))) else some false) else some false)) else some false) : Option (Bool)).bind fun x134 => some x134)))) else some x1))))))
set_option maxHeartbeats 4000000 in
set_option maxRecDepth 20000 in
theorem law17_RegionTells_ok {w0 w : World} {ps : List PF} {fs : List SF} {a0 : List api_Sector} {A0_ : Option Addr} {c0_ : Nat} {a1 : List Int} {A1_ : Option Addr} {c1_ : Nat} {a2 : Int} {a3 : Int} {a4 : Int} {r0 : Bool} (H : Hp w0 (rd k_api_Sector A0_ c0_ a0 :: rd kByte A1_ c1_ a1 :: ps) fs w) (h : law17_RegionTells_f a0 a1 a2 a3 a4 = some r0) :
    Calls Try.prog 3 [.slice A0_ a0.length c0_, .slice A1_ a1.length c1_, .int .i64 a2, .int .i64 a3, .int .i64 a4].toArray w fun e w' => ∃ v, e = .returned v ∧ v = .bool r0 ∧ Hp w0 ps fs w' := by
  refine enter [.slice A0_ a0.length c0_, .slice A1_ a1.length c1_, .int .i64 a2, .int .i64 a3, .int .i64 a4] 101 Try.func3 fun Q a NP RET NRM F => ?_
  replace NP : ∀ c a w, ¬ Q (.panic c) a w := fun c a w h => by rcases NP c a w h with h | ⟨w, v, h, _⟩ <;> cases h
  unfold law17_RegionTells_f at h
  refine rg ?_
  refine as_ F (v := .bool false) rfl fun a F => ?_
  refine rgend ?_
  refine rg ?_
  obtain ⟨x1, e2, h⟩ := Option.bind_eq_some_iff.1 h
  try dsimp only at h
  refine ls (call F Try.func9 (law17_head_ok (H) e2) rfl rfl fun v w hR a F => ?_)
  obtain ⟨rfl, H⟩ := hR
  refine as_ F rfl fun a F => ?_
  refine rgend ?_
  refine rg ?_
  refine mv F rfl fun a F => ?_
  refine ls (qv F (r_len (F.ev (x := .tmp 21) rfl) Try.underlying22) fun a F => ?_)
  refine as_ F rfl fun a F => ?_
  refine rgend ?_
  replace F := F.only [12, 11, 0, 1, 2, 3, 4] (l' := [(12, .int .i64 (a0.length : Int)), (11, .bool x1), (0, .slice A0_ a0.length c0_), (1, .slice A1_ a1.length c1_), (2, .int .i64 a2), (3, .int .i64 a3), (4, .int .i64 a4)]) rfl
  refine wp_seq ?_
  refine rg ?_
  refine as_ F (v := .int .i64 0) rfl fun a F => ?_
  refine rgend ?_
  obtain ⟨o_5, k_5, h⟩ := Option.bind_eq_some_iff.1 h
  refine cut (fun a w => ∃ (x5 : Int), x5 = o_5 ∧ Fr 101 [] [(0, .slice A0_ a0.length c0_), (1, .slice A1_ a1.length c1_), (2, .int .i64 a2), (3, .int .i64 a3), (4, .int .i64 a4), (11, .bool x1), (12, .int .i64 x5)] a ∧ Hp w0 (rd k_api_Sector A0_ c0_ a0 :: rd kByte A1_ c1_ a1 :: ps) fs w) (wp_block ?_) ?_
  · refine wloop (law17_RegionTells_b0 a0) (fun (s : Int × Int) a w => Fr 101 [] [(0, .slice A0_ a0.length c0_), (1, .slice A1_ a1.length c1_), (2, .int .i64 a2), (3, .int .i64 a3), (4, .int .i64 a4), (11, .bool x1), (12, .int .i64 s.1), (13, .int .i64 s.2)] a ∧ Hp w0 (rd k_api_Sector A0_ c0_ a0 :: rd kByte A1_ c1_ a1 :: ps) fs w) k_5 ⟨F.only [0, 1, 2, 3, 4, 11, 12, 13] rfl, H⟩ ?_
    rintro ⟨x3, x4⟩ a w q_5 j_5 u_5 ⟨F, H⟩
    unfold law17_RegionTells_b0 at j_5
    try dsimp only at j_5 F H
    refine wp_seq ?_
    refine wp_seq ?_
    obtain ⟨o_7, k_7, j_5⟩ := Option.bind_eq_some_iff.1 j_5
    refine cut (fun a w => ∃ (x7 : Bool), x7 = o_7 ∧ Fr 101 [] [(0, .slice A0_ a0.length c0_), (1, .slice A1_ a1.length c1_), (2, .int .i64 a2), (3, .int .i64 a3), (4, .int .i64 a4), (11, .bool x1), (12, .int .i64 x3), (13, .int .i64 x4), (30, .bool x7)] a ∧ Hp w0 (rd k_api_Sector A0_ c0_ a0 :: rd kByte A1_ c1_ a1 :: ps) fs w) ?_ ?_
    · skip
      refine wp_region_lit ?_
      refine mv F rfl fun a F => ?_
      refine mv F rfl fun a F => ?_
      refine ls (qv F (r_len (F.ev (x := .tmp 24) rfl) Try.underlying22) fun a F => ?_)
      refine ls (qv F (r_lt (F.ev (x := .tmp 23) rfl) (F.ev (x := .tmp 25) rfl)) fun a F => ?_)
      refine mv F rfl fun a F => ?_
      by_cases c9 : x4 < (a0.length : Int)
      · rw [if_pos c9] at k_7
        rw [decide_eq_true c9] at F
        refine mv F rfl fun a F => ?_
        refine ls (qv F (r_lt (F.ev (x := .tmp 28) rfl) (F.ev (x := .const (.int .i64 9000)) rfl)) fun a F => ?_)
        refine ls (qv F (r_pickT (F.ev (x := .tmp 27) rfl) (F.ev (x := .tmp 29) rfl)) fun a F => ?_)
        refine wpList_nil ?_
        replace F := F.only [30, 0, 1, 2, 3, 4, 11, 12, 13] (l' := [(30, .bool (decide (x3 < 9000))), (0, .slice A0_ a0.length c0_), (1, .slice A1_ a1.length c1_), (2, .int .i64 a2), (3, .int .i64 a3), (4, .int .i64 a4), (11, .bool x1), (12, .int .i64 x3), (13, .int .i64 x4)]) rfl
        try dsimp only at k_7
        obtain rfl := Option.some.inj k_7
        exact ⟨_, rfl, F.only [0, 1, 2, 3, 4, 11, 12, 13, 30] rfl, H⟩
      · rw [if_neg c9] at k_7
        rw [decide_eq_false c9] at F
        refine ls (off F fun a F => ?_)
        refine ls (off F fun a F => ?_)
        refine ls (qv F (r_pickF (F.ev (x := .tmp 27) rfl) (F.ev (x := .const (.bool false)) rfl)) fun a F => ?_)
        refine wpList_nil ?_
        replace F := F.only [30, 0, 1, 2, 3, 4, 11, 12, 13] (l' := [(30, .bool false), (0, .slice A0_ a0.length c0_), (1, .slice A1_ a1.length c1_), (2, .int .i64 a2), (3, .int .i64 a3), (4, .int .i64 a4), (11, .bool x1), (12, .int .i64 x3), (13, .int .i64 x4)]) rfl
        try dsimp only at k_7
        obtain rfl := Option.some.inj k_7
        exact ⟨_, rfl, F.only [0, 1, 2, 3, 4, 11, 12, 13, 30] rfl, H⟩
    · rintro a w ⟨x7, rfl, F, H⟩
      try dsimp only at j_5 F H
      by_cases c10 : x7 = true
      · rw [if_pos c10] at j_5
        rw [c10] at F
        refine wp_cond_true (F.ev rfl) ?_
        refine wp_skip ?_
        refine wp_seq ?_
        refine wp_block ?_
        refine wp_region_lit ?_
        refine mv F rfl fun a F => ?_
        refine mv F rfl fun a F => ?_
        refine mv F rfl fun a F => ?_
        obtain ⟨c11, j_5⟩ := guardO j_5
        obtain ⟨g12, o13, s14, hr, H⟩ := H.ix (⟨0, 0, 0, 0, []⟩ : api_Sector) 0 rfl (F.ev (x := .tmp 34) rfl) (F.ev (x := .tmp 35) rfl) Try.underlying22 sz26 (by decide) c11.1 c11.2
        obtain ⟨A15, c16, rfl, H⟩ := H.open_api_Sector 1 rfl
        refine ls (qv F (hr _ _ _ _ _ _) fun a F => ?_)
        refine ls (qv F (r_fa (off := 4) (F.ev (x := .tmp 36) rfl) fa26_4) fun a F => ?_)
        refine ls (qv F (r_ld (F.ev (x := .tmp 37) rfl) (range_cell (j := 4) (H.range 1 rfl) rfl) one23) fun a F => ?_)
        refine ls (qv F (r_len (F.ev (x := .tmp 38) rfl) Try.underlying23) fun a F => ?_)
        refine ls (qv F (r_min (F.ev (x := .tmp 39) rfl) (F.ev (x := .const (.int .i64 9000)) rfl)) fun a F => ?_)
        refine ls (qv F (r_add (F.ev (x := .tmp 33) rfl) (F.ev (x := .tmp 40) rfl)) fun a F => ?_)
        refine as_ F rfl fun a F => ?_
        refine wpList_nil ?_
        replace F := F.only [12, 0, 1, 2, 3, 4, 11, 13] (l' := [(12, .int .i64 (IntKind.i64.wrap (x3 + (min (((a0.getD (x4 : Int).toNat (⟨0, 0, 0, 0, []⟩ : api_Sector)).Body).length : Int) 9000)))), (0, .slice A0_ a0.length c0_), (1, .slice A1_ a1.length c1_), (2, .int .i64 a2), (3, .int .i64 a3), (4, .int .i64 a4), (11, .bool x1), (13, .int .i64 x4)]) rfl
        refine wp_region_lit ?_
        refine mv F rfl fun a F => ?_
        refine ls (qv F (r_add (F.ev (x := .tmp 31) rfl) (F.ev (x := .const (.int .i64 1)) rfl)) fun a F => ?_)
        refine as_ F rfl fun a F => ?_
        refine wpList_nil ?_
        try dsimp only at j_5
        obtain rfl := Option.some.inj j_5
        exact ⟨_, rfl, F.only [0, 1, 2, 3, 4, 11, 12, 13] rfl, H.px2.px1.px0⟩
      · rw [if_neg c10] at j_5
        rw [Bool.eq_false_iff.2 c10] at F
        refine wp_cond_false (F.ev rfl) ?_
        refine wp_exit ?_
        try dsimp only at j_5
        obtain rfl := Option.some.inj j_5
        obtain rfl := u_5 _ rfl
        repeat (with_reducible refine exT ?_)
        with_reducible refine exB ?_
        exact ⟨_, rfl, F.only [0, 1, 2, 3, 4, 11, 12] rfl, H⟩
  · rintro a w ⟨x5, rfl, F, H⟩
    try dsimp only at h F H
    refine wp_seq ?_
    refine rg ?_
    refine mv F rfl fun a F => ?_
    refine ls (qv F (r_ge (F.ev (x := .tmp 42) rfl) (F.ev (x := .const (.int .i64 9000)) rfl)) fun a F => ?_)
    refine mv F rfl fun a F => ?_
    by_cases c17 : x5 ≥ 9000
    · rw [if_pos c17] at h
      rw [decide_eq_true c17] at F
      refine ls (off F fun a F => ?_)
      refine ls (off F fun a F => ?_)
      refine ls (off F fun a F => ?_)
      refine ls (qv F (r_pickT (F.ev (x := .tmp 44) rfl) (F.ev (x := .const (.bool true)) rfl)) fun a F => ?_)
      refine mv F rfl fun a F => ?_
      refine ls (off F fun a F => ?_)
      refine ls (off F fun a F => ?_)
      refine ls (off F fun a F => ?_)
      refine ls (off F fun a F => ?_)
      refine ls (qv F (r_pickT (F.ev (x := .tmp 49) rfl) (F.ev (x := .const (.bool true)) rfl)) fun a F => ?_)
      refine rgend ?_
      replace F := F.only [54, 0, 1, 2, 3, 4, 11] (l' := [(54, .bool true), (0, .slice A0_ a0.length c0_), (1, .slice A1_ a1.length c1_), (2, .int .i64 a2), (3, .int .i64 a3), (4, .int .i64 a4), (11, .bool x1)]) rfl
      refine wp_cond_true (F.ev rfl) ?_
      refine rg ?_
      refine mv F rfl fun a F => ?_
      refine as_ F rfl fun a F => ?_
      refine rgend ?_
      replace F := F.only [10] (l' := [(10, .bool x1)]) rfl
      refine wp_ret ?_
      try dsimp only at h
      obtain rfl := Option.some.inj h
      exact RET _ _ (ret1 F rfl rfl ⟨_, rfl, rfl, H.px1.px0⟩)
    · rw [if_neg c17] at h
      rw [decide_eq_false c17] at F
      refine mv F rfl fun a F => ?_
      refine ls (qv F (r_len (F.ev (x := .tmp 45) rfl) Try.underlying22) fun a F => ?_)
      refine ls (qv F (r_gt (F.ev (x := .tmp 46) rfl) (F.ev (x := .const (.int .i64 60)) rfl)) fun a F => ?_)
      refine ls (qv F (r_pickF (F.ev (x := .tmp 44) rfl) (F.ev (x := .tmp 47) rfl)) fun a F => ?_)
      refine mv F rfl fun a F => ?_
      by_cases c18 : (a0.length : Int) > 60
      · rw [if_pos c18] at h
        rw [decide_eq_true c18] at F
        refine ls (off F fun a F => ?_)
        refine ls (off F fun a F => ?_)
        refine ls (off F fun a F => ?_)
        refine ls (off F fun a F => ?_)
        refine ls (qv F (r_pickT (F.ev (x := .tmp 49) rfl) (F.ev (x := .const (.bool true)) rfl)) fun a F => ?_)
        refine rgend ?_
        replace F := F.only [54, 0, 1, 2, 3, 4, 11] (l' := [(54, .bool true), (0, .slice A0_ a0.length c0_), (1, .slice A1_ a1.length c1_), (2, .int .i64 a2), (3, .int .i64 a3), (4, .int .i64 a4), (11, .bool x1)]) rfl
        refine wp_cond_true (F.ev rfl) ?_
        refine rg ?_
        refine mv F rfl fun a F => ?_
        refine as_ F rfl fun a F => ?_
        refine rgend ?_
        replace F := F.only [10] (l' := [(10, .bool x1)]) rfl
        refine wp_ret ?_
        try dsimp only at h
        obtain rfl := Option.some.inj h
        exact RET _ _ (ret1 F rfl rfl ⟨_, rfl, rfl, H.px1.px0⟩)
      · rw [if_neg c18] at h
        rw [decide_eq_false c18] at F
        refine mv F rfl fun a F => ?_
        refine mv F rfl fun a F => ?_
        obtain ⟨x19, e20, h⟩ := Option.bind_eq_some_iff.1 h
        try dsimp only at h
        refine ls (call F Try.func10 (law17_within_ok (H) e20) rfl rfl fun v w hR a F => ?_)
        obtain ⟨rfl, H⟩ := hR
        refine ls (qv F (r_not (F.ev (x := .tmp 52) rfl)) fun a F => ?_)
        refine ls (qv F (r_pickF (F.ev (x := .tmp 49) rfl) (F.ev (x := .tmp 53) rfl)) fun a F => ?_)
        refine rgend ?_
        replace F := F.only [54, 0, 1, 2, 3, 4, 11] (l' := [(54, .bool (!x19)), (0, .slice A0_ a0.length c0_), (1, .slice A1_ a1.length c1_), (2, .int .i64 a2), (3, .int .i64 a3), (4, .int .i64 a4), (11, .bool x1)]) rfl
        by_cases c21 : x19 = true
        · rw [if_pos c21] at h
          rw [c21] at F
          refine wp_cond_false (F.ev rfl) ?_
          refine wp_skip ?_
          refine rg ?_
          refine mv F rfl fun a F => ?_
          refine mv F rfl fun a F => ?_
          refine mv F rfl fun a F => ?_
          obtain ⟨o_25, k_25, h⟩ := Option.bind_eq_some_iff.1 h
          refine ls (call F Try.func11 (R := fun v w => (Sum.inl () = o_25 ∧ v = .tuple #[.pointer none, .pointer none] ∧ Hp w0 (rd k_api_Sector A0_ c0_ a0 :: rd kByte A1_ c1_ a1 :: ps) fs w) ∨ (∃ (x23 : disk_Disk) (x25 : ref15_Disk), Sum.inr (x23, x25) = o_25 ∧ ∃ (g22 : Nat) (g24 : Nat), v = .tuple #[.pointer (some ⟨g22, 0, none⟩), .pointer (some ⟨g24, 0, none⟩)] ∧ Hp w0 (rd k_api_Sector A0_ c0_ a0 :: rd kByte A1_ c1_ a1 :: ps) (obj_disk_Disk g22 x23 :: obj_ref15_Disk g24 x25 :: fs) w)) (args := [.int .i64 60, .slice A0_ a0.length c0_, .slice A1_ a1.length c1_, .int .i64 a2]) (cap := []) ?_ rfl rfl ?_)
          · refine enter [.int .i64 60, .slice A0_ a0.length c0_, .slice A1_ a1.length c1_, .int .i64 a2] 87 Try.func11 fun Q a NP RET NRM F => ?_
            replace NP : ∀ c a w, ¬ Q (.panic c) a w := fun c a w h => by rcases NP c a w h with h | ⟨w, v, h, _⟩ <;> cases h
            refine rg ?_
            refine as_ F (v := .pointer none) rfl fun a F => ?_
            refine as_ F (v := .pointer none) rfl fun a F => ?_
            refine rgend ?_
            refine rg ?_
            refine mv F rfl fun a F => ?_
            obtain ⟨x27, e28, k_25⟩ := Option.bind_eq_some_iff.1 k_25
            try dsimp only at k_25
            rcases x27 with _ | x29
            · try dsimp only at k_25
              refine ls (call F Try.func18 (disk_New_ok (H) e28) rfl rfl fun v w hR a F => ?_)
              obtain ⟨rfl, H⟩ := hR
              refine as_ F rfl fun a F => ?_
              refine rgend ?_
              replace F := F.only [10, 0, 1, 2, 3] (l' := [(10, .pointer none), (0, .int .i64 60), (1, .slice A0_ a0.length c0_), (2, .slice A1_ a1.length c1_), (3, .int .i64 a2)]) rfl
              refine rg ?_
              refine mv F rfl fun a F => ?_
              obtain ⟨x30, e31, k_25⟩ := Option.bind_eq_some_iff.1 k_25
              try dsimp only at k_25
              rcases x30 with _ | x32
              · try dsimp only at k_25
                refine ls (call F Try.func26 (ref15_New_ok (H) e31) rfl rfl fun v w hR a F => ?_)
                obtain ⟨rfl, H⟩ := hR
                refine as_ F rfl fun a F => ?_
                refine rgend ?_
                refine wp_seq ?_
                refine rg ?_
                refine mv F rfl fun a F => ?_
                refine ls (qv F (r_peq0 (F.ev (x := .tmp 20) rfl) (F.ev (x := .const (.pointer none)) rfl) Try.underlying28) fun a F => ?_)
                refine mv F rfl fun a F => ?_
                refine ls (off F fun a F => ?_)
                refine ls (off F fun a F => ?_)
                refine ls (qv F (r_pickT (F.ev (x := .tmp 22) rfl) (F.ev (x := .const (.bool true)) rfl)) fun a F => ?_)
                refine rgend ?_
                replace F := F.only [25, 11, 10, 1, 2, 3] (l' := [(25, .bool true), (11, .pointer none), (10, .pointer none), (1, .slice A0_ a0.length c0_), (2, .slice A1_ a1.length c1_), (3, .int .i64 a2)]) rfl
                refine wp_cond_true (F.ev rfl) ?_
                refine rg ?_
                refine as_ F (v := .pointer none) rfl fun a F => ?_
                refine as_ F (v := .pointer none) rfl fun a F => ?_
                refine rgend ?_
                replace F := F.only [9, 8] (l' := [(9, .pointer none), (8, .pointer none)]) rfl
                refine wp_ret ?_
                try dsimp only at k_25
                obtain rfl := Option.some.inj k_25
                exact RET _ _ (ret2 F rfl rfl rfl ⟨_, rfl, .inl ⟨rfl, rfl, H⟩⟩)
              · try dsimp only at k_25
                refine ls (call F Try.func26 (ref15_New_ok (H) e31) rfl rfl fun v w hR a F => ?_)
                obtain ⟨g33, rfl, H⟩ := hR
                refine as_ F rfl fun a F => ?_
                refine rgend ?_
                refine wp_seq ?_
                refine rg ?_
                refine mv F rfl fun a F => ?_
                refine ls (qv F (r_peq0 (F.ev (x := .tmp 20) rfl) (F.ev (x := .const (.pointer none)) rfl) Try.underlying28) fun a F => ?_)
                refine mv F rfl fun a F => ?_
                refine ls (off F fun a F => ?_)
                refine ls (off F fun a F => ?_)
                refine ls (qv F (r_pickT (F.ev (x := .tmp 22) rfl) (F.ev (x := .const (.bool true)) rfl)) fun a F => ?_)
                refine rgend ?_
                replace F := F.only [25, 11, 10, 1, 2, 3] (l' := [(25, .bool true), (11, .pointer (some ⟨g33, 0, none⟩)), (10, .pointer none), (1, .slice A0_ a0.length c0_), (2, .slice A1_ a1.length c1_), (3, .int .i64 a2)]) rfl
                refine wp_cond_true (F.ev rfl) ?_
                refine rg ?_
                refine as_ F (v := .pointer none) rfl fun a F => ?_
                refine as_ F (v := .pointer none) rfl fun a F => ?_
                refine rgend ?_
                replace F := F.only [9, 8] (l' := [(9, .pointer none), (8, .pointer none)]) rfl
                refine wp_ret ?_
                try dsimp only at k_25
                obtain rfl := Option.some.inj k_25
                exact RET _ _ (ret2 F rfl rfl rfl ⟨_, rfl, .inl ⟨rfl, rfl, H.fx0⟩⟩)
            · try dsimp only at k_25
              refine ls (call F Try.func18 (disk_New_ok (H) e28) rfl rfl fun v w hR a F => ?_)
              obtain ⟨g34, rfl, H⟩ := hR
              refine as_ F rfl fun a F => ?_
              refine rgend ?_
              replace F := F.only [10, 0, 1, 2, 3] (l' := [(10, .pointer (some ⟨g34, 0, none⟩)), (0, .int .i64 60), (1, .slice A0_ a0.length c0_), (2, .slice A1_ a1.length c1_), (3, .int .i64 a2)]) rfl
              refine rg ?_
              refine mv F rfl fun a F => ?_
              obtain ⟨x35, e36, k_25⟩ := Option.bind_eq_some_iff.1 k_25
              try dsimp only at k_25
              rcases x35 with _ | x37
              · try dsimp only at k_25
                refine ls (call F Try.func26 (ref15_New_ok (H) e36) rfl rfl fun v w hR a F => ?_)
                obtain ⟨rfl, H⟩ := hR
                refine as_ F rfl fun a F => ?_
                refine rgend ?_
                refine wp_seq ?_
                refine rg ?_
                refine mv F rfl fun a F => ?_
                refine ls (qv F (r_peq (F.ev (x := .tmp 20) rfl) (F.ev (x := .const (.pointer none)) rfl) Try.underlying28) fun a F => ?_)
                refine mv F rfl fun a F => ?_
                refine mv F rfl fun a F => ?_
                refine ls (qv F (r_peq0 (F.ev (x := .tmp 23) rfl) (F.ev (x := .const (.pointer none)) rfl) Try.underlying29) fun a F => ?_)
                refine ls (qv F (r_pickF (F.ev (x := .tmp 22) rfl) (F.ev (x := .tmp 24) rfl)) fun a F => ?_)
                refine rgend ?_
                replace F := F.only [25, 11, 10, 1, 2, 3] (l' := [(25, .bool true), (11, .pointer none), (10, .pointer (some ⟨g34, 0, none⟩)), (1, .slice A0_ a0.length c0_), (2, .slice A1_ a1.length c1_), (3, .int .i64 a2)]) rfl
                refine wp_cond_true (F.ev rfl) ?_
                refine rg ?_
                refine as_ F (v := .pointer none) rfl fun a F => ?_
                refine as_ F (v := .pointer none) rfl fun a F => ?_
                refine rgend ?_
                replace F := F.only [9, 8] (l' := [(9, .pointer none), (8, .pointer none)]) rfl
                refine wp_ret ?_
                try dsimp only at k_25
                obtain rfl := Option.some.inj k_25
                exact RET _ _ (ret2 F rfl rfl rfl ⟨_, rfl, .inl ⟨rfl, rfl, H.fx0⟩⟩)
              · try dsimp only at k_25
                refine ls (call F Try.func26 (ref15_New_ok (H) e36) rfl rfl fun v w hR a F => ?_)
                obtain ⟨g38, rfl, H⟩ := hR
                refine as_ F rfl fun a F => ?_
                refine rgend ?_
                refine wp_seq ?_
                refine rg ?_
                refine mv F rfl fun a F => ?_
                refine ls (qv F (r_peq (F.ev (x := .tmp 20) rfl) (F.ev (x := .const (.pointer none)) rfl) Try.underlying28) fun a F => ?_)
                refine mv F rfl fun a F => ?_
                refine mv F rfl fun a F => ?_
                refine ls (qv F (r_peq (F.ev (x := .tmp 23) rfl) (F.ev (x := .const (.pointer none)) rfl) Try.underlying29) fun a F => ?_)
                refine ls (qv F (r_pickF (F.ev (x := .tmp 22) rfl) (F.ev (x := .tmp 24) rfl)) fun a F => ?_)
                refine rgend ?_
                replace F := F.only [25, 11, 10, 1, 2, 3] (l' := [(25, .bool false), (11, .pointer (some ⟨g38, 0, none⟩)), (10, .pointer (some ⟨g34, 0, none⟩)), (1, .slice A0_ a0.length c0_), (2, .slice A1_ a1.length c1_), (3, .int .i64 a2)]) rfl
                refine wp_cond_false (F.ev rfl) ?_
                refine wp_skip ?_
                refine wp_seq ?_
                refine rg ?_
                refine as_ F (v := .int .i64 0) rfl fun a F => ?_
                refine rgend ?_
                obtain ⟨o_43, k_43, k_25⟩ := Option.bind_eq_some_iff.1 k_25
                refine cut (fun a w => ∃ (x42 : disk_Disk) (x43 : ref15_Disk), (x42, x43) = o_43 ∧ Fr 87 [] [(3, .int .i64 a2), (10, .pointer (some ⟨g34, 0, none⟩)), (11, .pointer (some ⟨g38, 0, none⟩))] a ∧ Hp w0 (rd k_api_Sector A0_ c0_ a0 :: rd kByte A1_ c1_ a1 :: ps) (obj_disk_Disk g34 x42 :: obj_ref15_Disk g38 x43 :: fs) w) (wp_block ?_) ?_
                · refine wloop (law17_RegionTells_b1 a0 a1) (fun (s : Int × disk_Disk × ref15_Disk) a w => Fr 87 [] [(1, .slice A0_ a0.length c0_), (2, .slice A1_ a1.length c1_), (3, .int .i64 a2), (10, .pointer (some ⟨g34, 0, none⟩)), (11, .pointer (some ⟨g38, 0, none⟩)), (12, .int .i64 s.1)] a ∧ Hp w0 (rd k_api_Sector A0_ c0_ a0 :: rd kByte A1_ c1_ a1 :: ps) (obj_disk_Disk g34 s.2.1 :: obj_ref15_Disk g38 s.2.2 :: fs) w) k_43 ⟨F.only [1, 2, 3, 10, 11, 12] rfl, H.f1⟩ ?_
                  rintro ⟨x39, x40, x41⟩ a w q_43 j_43 u_43 ⟨F, H⟩
                  unfold law17_RegionTells_b1 at j_43
                  try dsimp only at j_43 F H
                  refine wp_seq ?_
                  refine wp_seq ?_
                  obtain ⟨o_45, k_45, j_43⟩ := Option.bind_eq_some_iff.1 j_43
                  refine cut (fun a w => ∃ (x45 : Bool), x45 = o_45 ∧ Fr 87 [] [(1, .slice A0_ a0.length c0_), (2, .slice A1_ a1.length c1_), (3, .int .i64 a2), (10, .pointer (some ⟨g34, 0, none⟩)), (11, .pointer (some ⟨g38, 0, none⟩)), (12, .int .i64 x39), (35, .bool x45)] a ∧ Hp w0 (rd k_api_Sector A0_ c0_ a0 :: rd kByte A1_ c1_ a1 :: ps) (obj_disk_Disk g34 x40 :: obj_ref15_Disk g38 x41 :: fs) w) ?_ ?_
                  · skip
                    refine wp_region_lit ?_
                    refine mv F rfl fun a F => ?_
                    refine mv F rfl fun a F => ?_
                    refine ls (qv F (r_len (F.ev (x := .tmp 27) rfl) Try.underlying22) fun a F => ?_)
                    refine ls (qv F (r_lt (F.ev (x := .tmp 26) rfl) (F.ev (x := .tmp 28) rfl)) fun a F => ?_)
                    refine mv F rfl fun a F => ?_
                    by_cases c47 : x39 < (a0.length : Int)
                    · rw [if_pos c47] at k_45
                      rw [decide_eq_true c47] at F
                      refine mv F rfl fun a F => ?_
                      refine mv F rfl fun a F => ?_
                      refine ls (qv F (r_len (F.ev (x := .tmp 32) rfl) Try.underlying23) fun a F => ?_)
                      refine ls (qv F (r_lt (F.ev (x := .tmp 31) rfl) (F.ev (x := .tmp 33) rfl)) fun a F => ?_)
                      refine ls (qv F (r_pickT (F.ev (x := .tmp 30) rfl) (F.ev (x := .tmp 34) rfl)) fun a F => ?_)
                      refine wpList_nil ?_
                      replace F := F.only [35, 1, 2, 3, 10, 11, 12] (l' := [(35, .bool (decide (x39 < (a1.length : Int)))), (1, .slice A0_ a0.length c0_), (2, .slice A1_ a1.length c1_), (3, .int .i64 a2), (10, .pointer (some ⟨g34, 0, none⟩)), (11, .pointer (some ⟨g38, 0, none⟩)), (12, .int .i64 x39)]) rfl
                      try dsimp only at k_45
                      obtain rfl := Option.some.inj k_45
                      exact ⟨_, rfl, F.only [1, 2, 3, 10, 11, 12, 35] rfl, H⟩
                    · rw [if_neg c47] at k_45
                      rw [decide_eq_false c47] at F
                      refine ls (off F fun a F => ?_)
                      refine ls (off F fun a F => ?_)
                      refine ls (off F fun a F => ?_)
                      refine ls (off F fun a F => ?_)
                      refine ls (qv F (r_pickF (F.ev (x := .tmp 30) rfl) (F.ev (x := .const (.bool false)) rfl)) fun a F => ?_)
                      refine wpList_nil ?_
                      replace F := F.only [35, 1, 2, 3, 10, 11, 12] (l' := [(35, .bool false), (1, .slice A0_ a0.length c0_), (2, .slice A1_ a1.length c1_), (3, .int .i64 a2), (10, .pointer (some ⟨g34, 0, none⟩)), (11, .pointer (some ⟨g38, 0, none⟩)), (12, .int .i64 x39)]) rfl
                      try dsimp only at k_45
                      obtain rfl := Option.some.inj k_45
                      exact ⟨_, rfl, F.only [1, 2, 3, 10, 11, 12, 35] rfl, H⟩
                  · rintro a w ⟨x45, rfl, F, H⟩
                    try dsimp only at j_43 F H
                    by_cases c48 : x45 = true
                    · rw [if_pos c48] at j_43
                      rw [c48] at F
                      refine wp_cond_true (F.ev rfl) ?_
                      refine wp_skip ?_
                      refine wp_seq ?_
                      refine wp_block ?_
                      refine rg ?_
                      refine mv F rfl fun a F => ?_
                      refine mv F rfl fun a F => ?_
                      obtain ⟨c49, j_43⟩ := guardO j_43
                      obtain ⟨g50, o51, s52, hr, H⟩ := H.ix (⟨0, 0, 0, 0, []⟩ : api_Sector) 0 rfl (F.ev (x := .tmp 38) rfl) (F.ev (x := .tmp 39) rfl) Try.underlying22 sz26 (by decide) c49.1 c49.2
                      obtain ⟨A53, c54, rfl, H⟩ := H.open_api_Sector 1 rfl
                      refine ls (qv F (hr _ _ _ _ _ _) fun a F => ?_)
                      refine ls (qv F (r_fa (off := 1) (F.ev (x := .tmp 40) rfl) fa26_1) fun a F => ?_)
                      refine ls (qv F (r_ld (F.ev (x := .tmp 41) rfl) (range_cell (j := 1) (H.range 1 rfl) rfl) one3) fun a F => ?_)
                      refine as_ F rfl fun a F => ?_
                      refine rgend ?_
                      replace F := F.only [13, 1, 2, 3, 10, 11, 12] (l' := [(13, .int .i64 ((a0.getD (x39 : Int).toNat (⟨0, 0, 0, 0, []⟩ : api_Sector)).Place)), (1, .slice A0_ a0.length c0_), (2, .slice A1_ a1.length c1_), (3, .int .i64 a2), (10, .pointer (some ⟨g34, 0, none⟩)), (11, .pointer (some ⟨g38, 0, none⟩)), (12, .int .i64 x39)]) rfl
                      refine wp_seq ?_
                      refine rg ?_
                      refine mv F rfl fun a F => ?_
                      refine mv F rfl fun a F => ?_
                      obtain ⟨c55, j_43⟩ := guardO j_43
                      obtain ⟨g56, o57, s58, hr, H⟩ := H.ix 0 4 rfl (F.ev (x := .tmp 43) rfl) (F.ev (x := .tmp 44) rfl) Try.underlying23 sz5 (by decide) c55.1 c55.2
                      obtain ⟨rfl, hr59⟩ := H.says_byte 1 rfl
                      refine ls (qv F (hr _ _ _ _ _ _) fun a F => ?_)
                      refine ls (qv F (r_ld (F.ev (x := .tmp 45) rfl) (range_cell (j := 0) (H.range 0 rfl) rfl) one5) fun a F => ?_)
                      refine ls (qv F (r_gt (F.ev (x := .tmp 46) rfl) (F.ev (x := .const (.int .u8 0)) rfl)) fun a F => ?_)
                      refine rgend ?_
                      replace F := F.only [47, 13, 1, 2, 3, 10, 11, 12] (l' := [(47, .bool (decide ((a1.getD (x39 : Int).toNat 0) > 0))), (13, .int .i64 ((a0.getD (x39 : Int).toNat (⟨0, 0, 0, 0, []⟩ : api_Sector)).Place)), (1, .slice A0_ a0.length c0_), (2, .slice A1_ a1.length c1_), (3, .int .i64 a2), (10, .pointer (some ⟨g34, 0, none⟩)), (11, .pointer (some ⟨g38, 0, none⟩)), (12, .int .i64 x39)]) rfl
                      obtain ⟨o_60, k_60, j_43⟩ := Option.bind_eq_some_iff.1 j_43
                      refine cut (fun a w => ∃ (x60 : Int), x60 = o_60 ∧ Fr 87 [] [(1, .slice A0_ a0.length c0_), (2, .slice A1_ a1.length c1_), (3, .int .i64 a2), (10, .pointer (some ⟨g34, 0, none⟩)), (11, .pointer (some ⟨g38, 0, none⟩)), (12, .int .i64 x39), (13, .int .i64 x60)] a ∧ Hp w0 (rd k_api_Sector A0_ c0_ a0 :: rd kByte A1_ c1_ a1 :: ps) (obj_disk_Disk g34 x40 :: obj_ref15_Disk g38 x41 :: fs) w) ?_ ?_
                      · skip
                        by_cases c62 : (a1.getD (x39 : Int).toNat 0) > 0
                        · rw [if_pos c62] at k_60
                          rw [decide_eq_true c62] at F
                          refine wp_cond_true (F.ev rfl) ?_
                          refine wp_region_lit ?_
                          refine mv F rfl fun a F => ?_
                          refine mv F rfl fun a F => ?_
                          obtain ⟨c63, k_60⟩ := guardO k_60
                          obtain ⟨g64, o65, s66, hr, H⟩ := H.ix 0 6 rfl (F.ev (x := .tmp 48) rfl) (F.ev (x := .tmp 49) rfl) Try.underlying23 sz5 (by decide) c63.1 c63.2
                          obtain ⟨rfl, hr67⟩ := H.says_byte 1 rfl
                          refine ls (qv F (hr _ _ _ _ _ _) fun a F => ?_)
                          refine ls (qv F (r_ld (F.ev (x := .tmp 50) rfl) (range_cell (j := 0) (H.range 0 rfl) rfl) one5) fun a F => ?_)
                          refine ls (qv F (r_ci (F.ev (x := .tmp 51) rfl) Try.underlying3 Try.underlying5) fun a F => ?_)
                          refine as_ F rfl fun a F => ?_
                          refine wpList_nil ?_
                          replace F := F.only [13, 1, 2, 3, 10, 11, 12] (l' := [(13, .int .i64 (IntKind.i64.wrap (a1.getD (x39 : Int).toNat 0))), (1, .slice A0_ a0.length c0_), (2, .slice A1_ a1.length c1_), (3, .int .i64 a2), (10, .pointer (some ⟨g34, 0, none⟩)), (11, .pointer (some ⟨g38, 0, none⟩)), (12, .int .i64 x39)]) rfl
                          try dsimp only at k_60
                          obtain rfl := Option.some.inj k_60
                          exact ⟨_, rfl, F.only [1, 2, 3, 10, 11, 12, 13] rfl, H.px6.px5.px4.px3.px2.px1.px0⟩
                        · rw [if_neg c62] at k_60
                          rw [decide_eq_false c62] at F
                          refine wp_cond_false (F.ev rfl) ?_
                          refine wp_skip ?_
                          try dsimp only at k_60
                          obtain rfl := Option.some.inj k_60
                          exact ⟨_, rfl, F.only [1, 2, 3, 10, 11, 12, 13] rfl, H.px4.px3.px2.px1.px0⟩
                      · rintro a w ⟨x60, rfl, F, H⟩
                        try dsimp only at j_43 F H
                        refine rg ?_
                        refine mv F rfl fun a F => ?_
                        refine mv F rfl fun a F => ?_
                        refine mv F rfl fun a F => ?_
                        refine mv F rfl fun a F => ?_
                        obtain ⟨c68, j_43⟩ := guardO j_43
                        obtain ⟨g69, o70, s71, hr, H⟩ := H.ix (⟨0, 0, 0, 0, []⟩ : api_Sector) 0 rfl (F.ev (x := .tmp 55) rfl) (F.ev (x := .tmp 56) rfl) Try.underlying22 sz26 (by decide) c68.1 c68.2
                        obtain ⟨A72, c73, rfl, H⟩ := H.open_api_Sector 1 rfl
                        refine ls (qv F (hr _ _ _ _ _ _) fun a F => ?_)
                        refine ls (qv F (r_ldA (F.ev (x := .tmp 57) rfl) (H.range 1 rfl) agg26 rfl) fun a F => ?_)
                        obtain ⟨x74, e75, j_43⟩ := Option.bind_eq_some_iff.1 j_43
                        try dsimp only at j_43
                        refine ls (call F Try.func23 (ref16_Put_ok (a0 := (a0.getD (x39 : Int).toNat (⟨0, 0, 0, 0, []⟩ : api_Sector))) (H.p0) e75) rfl rfl fun v w hR a F => ?_)
                        obtain ⟨A76, c77, rfl, H⟩ := hR
                        obtain ⟨⟨x78, x79⟩, e80, j_43⟩ := Option.bind_eq_some_iff.1 j_43
                        try dsimp only at j_43
                        refine ls (call F Try.func21 (disk_Disk_Write_ok (H.p0) e80) rfl rfl fun v w hR a F => ?_)
                        obtain ⟨rfl, H⟩ := hR
                        refine rgend ?_
                        replace F := F.only [1, 2, 3, 10, 11, 12, 13] (l' := [(1, .slice A0_ a0.length c0_), (2, .slice A1_ a1.length c1_), (3, .int .i64 a2), (10, .pointer (some ⟨g34, 0, none⟩)), (11, .pointer (some ⟨g38, 0, none⟩)), (12, .int .i64 x39), (13, .int .i64 x60)]) rfl
                        refine wp_region_lit ?_
                        refine mv F rfl fun a F => ?_
                        refine mv F rfl fun a F => ?_
                        refine mv F rfl fun a F => ?_
                        refine mv F rfl fun a F => ?_
                        obtain ⟨c81, j_43⟩ := guardO j_43
                        obtain ⟨g82, o83, s84, hr, H⟩ := H.ix (⟨0, 0, 0, 0, []⟩ : api_Sector) 4 rfl (F.ev (x := .tmp 63) rfl) (F.ev (x := .tmp 64) rfl) Try.underlying22 sz26 (by decide) c81.1 c81.2
                        obtain ⟨A85, c86, rfl, H⟩ := H.open_api_Sector 1 rfl
                        refine ls (qv F (hr _ _ _ _ _ _) fun a F => ?_)
                        refine ls (qv F (r_ldA (F.ev (x := .tmp 65) rfl) (H.range 1 rfl) agg26 rfl) fun a F => ?_)
                        obtain ⟨x87, e88, j_43⟩ := Option.bind_eq_some_iff.1 j_43
                        try dsimp only at j_43
                        refine ls (call F Try.func23 (ref16_Put_ok (a0 := (a0.getD (x39 : Int).toNat (⟨0, 0, 0, 0, []⟩ : api_Sector))) (H.p0) e88) rfl rfl fun v w hR a F => ?_)
                        obtain ⟨A89, c90, rfl, H⟩ := hR
                        obtain ⟨⟨x91, x92⟩, e93, j_43⟩ := Option.bind_eq_some_iff.1 j_43
                        try dsimp only at j_43
                        refine ls (call F Try.func33 (ref15_Disk_Write_ok (H.p0.f1) e93) rfl rfl fun v w hR a F => ?_)
                        obtain ⟨rfl, H⟩ := hR
                        refine wpList_nil ?_
                        replace F := F.only [1, 2, 3, 10, 11, 12] (l' := [(1, .slice A0_ a0.length c0_), (2, .slice A1_ a1.length c1_), (3, .int .i64 a2), (10, .pointer (some ⟨g34, 0, none⟩)), (11, .pointer (some ⟨g38, 0, none⟩)), (12, .int .i64 x39)]) rfl
                        refine wp_region_lit ?_
                        refine mv F rfl fun a F => ?_
                        refine ls (qv F (r_add (F.ev (x := .tmp 36) rfl) (F.ev (x := .const (.int .i64 1)) rfl)) fun a F => ?_)
                        refine as_ F rfl fun a F => ?_
                        refine wpList_nil ?_
                        try dsimp only at j_43
                        obtain rfl := Option.some.inj j_43
                        exact ⟨_, rfl, F.only [1, 2, 3, 10, 11, 12] rfl, H.px7.px6.px5.px4.px3.px2.px1.px0.f1⟩
                    · rw [if_neg c48] at j_43
                      rw [Bool.eq_false_iff.2 c48] at F
                      refine wp_cond_false (F.ev rfl) ?_
                      refine wp_exit ?_
                      try dsimp only at j_43
                      obtain rfl := Option.some.inj j_43
                      obtain rfl := u_43 _ rfl
                      repeat (with_reducible refine exT ?_)
                      with_reducible refine exB ?_
                      exact ⟨_, _, rfl, F.only [3, 10, 11] rfl, H⟩
                · rintro a w ⟨x42, x43, rfl, F, H⟩
                  try dsimp only at k_25 F H
                  refine rg ?_
                  obtain ⟨c95, k_25⟩ := guardO k_25
                  obtain ⟨g94, _, hr, H⟩ := Hp.make (kd := kBool) (zx := false) H (F.ev (x := .const (.int .i64 60)) rfl) (F.ev (x := .const (.int .i64 60)) rfl) Try.underlying54 ti4 rfl rfl (by decide) c95.1 c95.2 (fun Z w => rfl) rfl
                  refine ls (qv F (hr _ _ _ _ _) fun a F => ?_)
                  refine as_ F rfl fun a F => ?_
                  refine rgend ?_
                  refine wp_seq ?_
                  refine rg ?_
                  refine as_ F (v := .int .i64 0) rfl fun a F => ?_
                  refine rgend ?_
                  obtain ⟨o_102, k_102, k_25⟩ := Option.bind_eq_some_iff.1 k_25
                  refine cut (fun a w => ∃ (x100 : List Bool), x100 = o_102 ∧ ∃ (A101 : Option Addr) (c102 : Nat), Fr 87 [] [(3, .int .i64 a2), (10, .pointer (some ⟨g34, 0, none⟩)), (11, .pointer (some ⟨g38, 0, none⟩)), (14, .slice A101 x100.length c102)] a ∧ Hp w0 (rd k_api_Sector A0_ c0_ a0 :: rd kByte A1_ c1_ a1 :: ps) (own kBool 4 A101 c102 x100 :: obj_disk_Disk g34 x42 :: obj_ref15_Disk g38 x43 :: fs) w) (wp_block ?_) ?_
                  · refine wloop law17_RegionTells_b2 (fun (s : (List Bool) × Int) a w => ∃ (A97 : Option Addr) (c98 : Nat), Fr 87 [] [(3, .int .i64 a2), (10, .pointer (some ⟨g34, 0, none⟩)), (11, .pointer (some ⟨g38, 0, none⟩)), (14, .slice A97 s.1.length c98), (15, .int .i64 s.2)] a ∧ Hp w0 (rd k_api_Sector A0_ c0_ a0 :: rd kByte A1_ c1_ a1 :: ps) (own kBool 4 A97 c98 s.1 :: obj_disk_Disk g34 x42 :: obj_ref15_Disk g38 x43 :: fs) w) k_102 ⟨(some ⟨g94, 0, none⟩), (List.replicate (60 : Int).toNat false).length, F.only [3, 10, 11, 14, 15] rfl, H⟩ ?_
                    rintro ⟨x96, x99⟩ a w q_102 j_102 u_102 ⟨A97, c98, F, H⟩
                    unfold law17_RegionTells_b2 at j_102
                    try dsimp only at j_102 F H
                    refine wp_seq ?_
                    refine rg ?_
                    refine mv F rfl fun a F => ?_
                    refine ls (qv F (r_lt (F.ev (x := .tmp 70) rfl) (F.ev (x := .const (.int .i64 60)) rfl)) fun a F => ?_)
                    refine rgend ?_
                    by_cases c104 : x99 < 60
                    · rw [if_pos c104] at j_102
                      rw [decide_eq_true c104] at F
                      refine wp_cond_true (F.ev rfl) ?_
                      refine wp_skip ?_
                      refine wp_seq ?_
                      refine wp_block ?_
                      refine wp_region_lit ?_
                      refine mv F rfl fun a F => ?_
                      refine mv F rfl fun a F => ?_
                      obtain ⟨c105, j_102⟩ := guardO j_102
                      obtain ⟨g106, s107, hA, hq109, hl108, H⟩ := H.ixOwn2 false 0 rfl (F.ev (x := .tmp 74) rfl) (F.ev (x := .tmp 75) rfl) Try.underlying54 sz4 (by decide) c105.1 c105.2
                      cases hA
                      obtain rfl := H.says_bool 0 rfl
                      refine ls (qv F (hq109 _ _ _ _ _ _) fun a F => ?_)
                      obtain ⟨_, hr, H⟩ := Hp.setOwn (kd := kBool) (xs := x96) (j := (x99 : Int).toNat) (x1 := true) (H) (F.ev (x := .tmp 76) rfl) (F.ev (x := .const (.bool true)) rfl) rfl sz4 (by have := c105; omega) (fun Z hp => rfl)
                      refine ls (qn F (.inl rfl) (hr _ _ _ _) fun a F => ?_)
                      replace F := F.only [76, 75, 74, 71, 70, 3, 10, 11, 14, 15] (l' := [(76, .pointer (some ⟨g106, (x99 : Int).toNat * kBool.sz, none⟩)), (75, .int .i64 x99), (74, .slice (some ⟨g106, 0, none⟩) ((x96.set (x99 : Int).toNat true)).length c98), (71, .bool true), (70, .int .i64 x99), (3, .int .i64 a2), (10, .pointer (some ⟨g34, 0, none⟩)), (11, .pointer (some ⟨g38, 0, none⟩)), (14, .slice (some ⟨g106, 0, none⟩) ((x96.set (x99 : Int).toNat true)).length c98), (15, .int .i64 x99)]) (by (try simp only [List.length_set]); rfl)
                      refine wpList_nil ?_
                      replace F := F.only [3, 10, 11, 14, 15] (l' := [(3, .int .i64 a2), (10, .pointer (some ⟨g34, 0, none⟩)), (11, .pointer (some ⟨g38, 0, none⟩)), (14, .slice (some ⟨g106, 0, none⟩) ((x96.set (x99 : Int).toNat true)).length c98), (15, .int .i64 x99)]) rfl
                      refine wp_region_lit ?_
                      refine mv F rfl fun a F => ?_
                      refine ls (qv F (r_add (F.ev (x := .tmp 72) rfl) (F.ev (x := .const (.int .i64 1)) rfl)) fun a F => ?_)
                      refine as_ F rfl fun a F => ?_
                      refine wpList_nil ?_
                      try dsimp only at j_102
                      obtain rfl := Option.some.inj j_102
                      exact ⟨_, rfl, (some ⟨g106, 0, none⟩), c98, F.only [3, 10, 11, 14, 15] rfl, H.px0⟩
                    · rw [if_neg c104] at j_102
                      rw [decide_eq_false c104] at F
                      refine wp_cond_false (F.ev rfl) ?_
                      refine wp_exit ?_
                      try dsimp only at j_102
                      obtain rfl := Option.some.inj j_102
                      obtain rfl := u_102 _ rfl
                      repeat (with_reducible refine exT ?_)
                      with_reducible refine exB ?_
                      exact ⟨_, rfl, A97, c98, F.only [3, 10, 11, 14] rfl, H⟩
                  · rintro a w ⟨x100, rfl, A101, c102, F, H⟩
                    try dsimp only at k_25 F H
                    refine rg ?_
                    refine mv F rfl fun a F => ?_
                    refine mv F rfl fun a F => ?_
                    refine mv F rfl fun a F => ?_
                    replace H := (H).freeze
                    obtain ⟨x110, e111, k_25⟩ := Option.bind_eq_some_iff.1 k_25
                    try dsimp only at k_25
                    refine ls (call F Try.func25 (disk_Disk_Crash_ok (H.p0) e111) rfl rfl fun v w hR a F => ?_)
                    obtain ⟨rfl, H⟩ := hR
                    refine rgend ?_
                    replace F := F.only [3, 10, 11, 14] (l' := [(3, .int .i64 a2), (10, .pointer (some ⟨g34, 0, none⟩)), (11, .pointer (some ⟨g38, 0, none⟩)), (14, .slice A101 x100.length c102)]) rfl
                    refine rg ?_
                    refine mv F rfl fun a F => ?_
                    refine mv F rfl fun a F => ?_
                    refine mv F rfl fun a F => ?_
                    obtain ⟨x112, e113, k_25⟩ := Option.bind_eq_some_iff.1 k_25
                    try dsimp only at k_25
                    refine ls (call F Try.func34 (ref15_Disk_Crash_ok (H.p0.f1) e113) rfl rfl fun v w hR a F => ?_)
                    obtain ⟨rfl, H⟩ := hR
                    refine rgend ?_
                    replace F := F.only [10, 11] (l' := [(10, .pointer (some ⟨g34, 0, none⟩)), (11, .pointer (some ⟨g38, 0, none⟩))]) rfl
                    refine rg ?_
                    refine mv F rfl fun a F => ?_
                    refine mv F rfl fun a F => ?_
                    refine as_ F rfl fun a F => ?_
                    refine as_ F rfl fun a F => ?_
                    refine rgend ?_
                    replace F := F.only [9, 8] (l' := [(9, .pointer (some ⟨g38, 0, none⟩)), (8, .pointer (some ⟨g34, 0, none⟩))]) rfl
                    refine wp_ret ?_
                    try dsimp only at k_25
                    obtain rfl := Option.some.inj k_25
                    exact RET _ _ (ret2 F rfl rfl rfl ⟨_, rfl, .inr ⟨_, _, rfl, g34, g38, rfl, H.px0.f1⟩⟩)
          · rintro v w (⟨rfl, rfl, H⟩ | ⟨x23, x25, rfl, g22, g24, rfl, H⟩) a F
            · skip
              try dsimp only at h F H
              refine mv F rfl fun a F => ?_
              refine ls (qv F (r_ex (F.ev (x := .tmp 56) rfl) rfl) fun a F => ?_)
              refine ls (qv F (r_ex (F.ev (x := .tmp 56) rfl) rfl) fun a F => ?_)
              refine as_ F rfl fun a F => ?_
              refine as_ F rfl fun a F => ?_
              refine rgend ?_
              replace F := F.only [15, 14, 3, 4, 11] (l' := [(15, .pointer none), (14, .pointer none), (3, .int .i64 a3), (4, .int .i64 a4), (11, .bool x1)]) rfl
              refine wp_seq ?_
              refine rg ?_
              refine mv F rfl fun a F => ?_
              refine ls (qv F (r_peq0 (F.ev (x := .tmp 63) rfl) (F.ev (x := .const (.pointer none)) rfl) Try.underlying28) fun a F => ?_)
              refine rgend ?_
              refine wp_cond_true (F.ev rfl) ?_
              refine rg ?_
              refine as_ F (v := .bool false) rfl fun a F => ?_
              refine rgend ?_
              replace F := F.only [10] (l' := [(10, .bool false)]) rfl
              refine wp_ret ?_
              try dsimp only at h
              obtain rfl := Option.some.inj h
              exact RET _ _ (ret1 F rfl rfl ⟨_, rfl, rfl, H.px1.px0⟩)
            · skip
              try dsimp only at h F H
              refine mv F rfl fun a F => ?_
              refine ls (qv F (r_ex (F.ev (x := .tmp 56) rfl) rfl) fun a F => ?_)
              refine ls (qv F (r_ex (F.ev (x := .tmp 56) rfl) rfl) fun a F => ?_)
              refine as_ F rfl fun a F => ?_
              refine as_ F rfl fun a F => ?_
              refine rgend ?_
              replace F := F.only [15, 14, 3, 4, 11] (l' := [(15, .pointer (some ⟨g24, 0, none⟩)), (14, .pointer (some ⟨g22, 0, none⟩)), (3, .int .i64 a3), (4, .int .i64 a4), (11, .bool x1)]) rfl
              refine wp_seq ?_
              refine rg ?_
              refine mv F rfl fun a F => ?_
              refine ls (qv F (r_peq (F.ev (x := .tmp 63) rfl) (F.ev (x := .const (.pointer none)) rfl) Try.underlying28) fun a F => ?_)
              refine rgend ?_
              refine wp_cond_false (F.ev rfl) ?_
              refine wp_skip ?_
              refine rg ?_
              refine mv F rfl fun a F => ?_
              refine mv F rfl fun a F => ?_
              refine mv F rfl fun a F => ?_
              obtain ⟨⟨x114, x115⟩, e116, h⟩ := Option.bind_eq_some_iff.1 h
              try dsimp only at h
              refine ls (call F Try.func12 (region_Read_ok (H) e116) rfl rfl fun v w hR a F => ?_)
              obtain ⟨A117, c118, A119, c120, A121, c122, rfl, H⟩ := hR
              refine mv F rfl fun a F => ?_
              refine ls (qv F (r_ex (F.ev (x := .tmp 65) rfl) rfl) fun a F => ?_)
              refine ls (qv F (r_ex (F.ev (x := .tmp 65) rfl) rfl) fun a F => ?_)
              refine ls (lal F H ti34 (cs := [.int .i64 0, .slice none 0 0, .slice none 0 0, .slice none 0 0]) rfl fun g123 w a H F => ?_)
              obtain ⟨_, hr, H⟩ := Hp.store (t := 34) (o := 0) (n := 4) (vs := [.int .i64 x114.Gen, .slice A117 x114.State.length c118, .slice A119 x114.Kept.length c120, .slice A121 x114.More.length c122]) (cs' := [.int .i64 x114.Gen, .slice A117 x114.State.length c118, .slice A119 x114.Kept.length c120, .slice A121 x114.More.length c122]) (H) (F.ev (x := .tmp 16) rfl) (F.ev (x := .tmp 70) rfl) rfl sz34 rfl (Nat.le_of_ble_eq_true rfl) rfl rfl
              refine ls (qn F (.inl rfl) (hr _ _ _ _) fun a F => ?_)
              refine as_ F rfl fun a F => ?_
              refine rgend ?_
              replace F := F.only [17, 16, 15, 14, 3, 4, 11] (l' := [(17, .bool x115), (16, .pointer (some ⟨g123, 0, none⟩)), (15, .pointer (some ⟨g24, 0, none⟩)), (14, .pointer (some ⟨g22, 0, none⟩)), (3, .int .i64 a3), (4, .int .i64 a4), (11, .bool x1)]) rfl
              refine rg ?_
              refine mv F rfl fun a F => ?_
              refine mv F rfl fun a F => ?_
              refine mv F rfl fun a F => ?_
              obtain ⟨⟨x124, x125⟩, e126, h⟩ := Option.bind_eq_some_iff.1 h
              try dsimp only at h
              refine ls (call F Try.func13 (ref17_Read_ok (H.f2.f2.f2.f3) e126) rfl rfl fun v w hR a F => ?_)
              obtain ⟨A127, c128, A129, c130, A131, c132, rfl, H⟩ := hR
              refine mv F rfl fun a F => ?_
              refine ls (qv F (r_ex (F.ev (x := .tmp 72) rfl) rfl) fun a F => ?_)
              refine ls (qv F (r_ex (F.ev (x := .tmp 72) rfl) rfl) fun a F => ?_)
              refine ls (lal F H ti34 (cs := [.int .i64 0, .slice none 0 0, .slice none 0 0, .slice none 0 0]) rfl fun g133 w a H F => ?_)
              obtain ⟨_, hr, H⟩ := Hp.store (t := 34) (o := 0) (n := 4) (vs := [.int .i64 x124.Gen, .slice A127 x124.State.length c128, .slice A129 x124.Kept.length c130, .slice A131 x124.More.length c132]) (cs' := [.int .i64 x124.Gen, .slice A127 x124.State.length c128, .slice A129 x124.Kept.length c130, .slice A131 x124.More.length c132]) (H) (F.ev (x := .tmp 18) rfl) (F.ev (x := .tmp 77) rfl) rfl sz34 rfl (Nat.le_of_ble_eq_true rfl) rfl rfl
              refine ls (qn F (.inl rfl) (hr _ _ _ _) fun a F => ?_)
              refine as_ F rfl fun a F => ?_
              refine rgend ?_
              replace F := F.only [19, 18, 17, 16, 15, 14, 3, 4, 11] (l' := [(19, .bool x125), (18, .pointer (some ⟨g133, 0, none⟩)), (17, .bool x115), (16, .pointer (some ⟨g123, 0, none⟩)), (15, .pointer (some ⟨g24, 0, none⟩)), (14, .pointer (some ⟨g22, 0, none⟩)), (3, .int .i64 a3), (4, .int .i64 a4), (11, .bool x1)]) rfl
              refine wp_seq ?_
              obtain ⟨o_134, k_134, h⟩ := Option.bind_eq_some_iff.1 h
              refine cut (fun a w => ∃ (x134 : Bool), x134 = o_134 ∧ Fr 101 [] [(10, .bool x134)] a ∧ Hp w0 ps (obj_disk_Disk g22 x23 :: obj_ref15_Disk g24 x25 :: fs) w) ?_ ?_
              · skip
                refine wp_region_lit ?_
                refine mv F rfl fun a F => ?_
                refine mv F rfl fun a F => ?_
                by_cases c136 : x1 = true
                · rw [if_pos c136] at k_134
                  rw [c136] at F
                  refine ls (qv F (r_ldA (F.ev (x := .tmp 16) rfl) (cel_range (o := 0) (n := 4) (vs := [.int .i64 x114.Gen, .slice A117 x114.State.length c118, .slice A119 x114.Kept.length c120, .slice A121 x114.More.length c122]) (H.cell 2 rfl) rfl) agg34 rfl) fun a F => ?_)
                  refine ls (qv F (r_ldA (F.ev (x := .tmp 18) rfl) (cel_range (o := 0) (n := 4) (vs := [.int .i64 x124.Gen, .slice A127 x124.State.length c128, .slice A129 x124.Kept.length c130, .slice A131 x124.More.length c132]) (H.cell 0 rfl) rfl) agg34 rfl) fun a F => ?_)
                  replace H := (H.f4.f3.f3.f3.f4).freeze
                  obtain ⟨x137, e138, k_134⟩ := Option.bind_eq_some_iff.1 k_134
                  try dsimp only at k_134
                  refine ls (call F Try.func14 (ref17_Same_ok (a0 := x114) (a1 := x124) (H.p3.p3.p3.p3.p9.p9) e138) rfl rfl fun v w hR a F => ?_)
                  obtain ⟨rfl, H⟩ := hR
                  refine ls (qv F (r_pickT (F.ev (x := .tmp 80) rfl) (F.ev (x := .tmp 83) rfl)) fun a F => ?_)
                  refine mv F rfl fun a F => ?_
                  by_cases c139 : x137 = true
                  · rw [if_pos c139] at k_134
                    rw [c139] at F
                    refine mv F rfl fun a F => ?_
                    refine mv F rfl fun a F => ?_
                    refine ls (qv F (r_beq (F.ev (x := .tmp 86) rfl) (F.ev (x := .tmp 87) rfl) Try.underlying4) fun a F => ?_)
                    refine ls (qv F (r_pickT (F.ev (x := .tmp 85) rfl) (F.ev (x := .tmp 88) rfl)) fun a F => ?_)
                    refine mv F rfl fun a F => ?_
                    by_cases c140 : (x115 == x125) = true
                    · rw [if_pos c140] at k_134
                      rw [c140] at F
                      refine mv F rfl fun a F => ?_
                      refine mv F rfl fun a F => ?_
                      refine mv F rfl fun a F => ?_
                      obtain ⟨x141, e142, k_134⟩ := Option.bind_eq_some_iff.1 k_134
                      try dsimp only at k_134
                      refine ls (call F Try.func15 (region_Greatest_ok (H.f2.f2.f2.f3) e142) rfl rfl fun v w hR a F => ?_)
                      obtain ⟨rfl, H⟩ := hR
                      refine mv F rfl fun a F => ?_
                      refine mv F rfl fun a F => ?_
                      refine mv F rfl fun a F => ?_
                      obtain ⟨x143, e144, k_134⟩ := Option.bind_eq_some_iff.1 k_134
                      try dsimp only at k_134
                      refine ls (call F Try.func16 (ref17_Greatest_ok (H.f3.f2.f2.f3) e144) rfl rfl fun v w hR a F => ?_)
                      obtain ⟨rfl, H⟩ := hR
                      refine ls (qv F (r_eq (F.ev (x := .tmp 94) rfl) (F.ev (x := .tmp 98) rfl)) fun a F => ?_)
                      refine ls (qv F (r_pickT (F.ev (x := .tmp 90) rfl) (F.ev (x := .tmp 99) rfl)) fun a F => ?_)
                      refine as_ F rfl fun a F => ?_
                      refine wpList_nil ?_
                      replace F := F.only [10] (l' := [(10, .bool (decide (x141 = x143)))]) rfl
                      try dsimp only at k_134
                      obtain rfl := Option.some.inj k_134
                      exact ⟨_, rfl, F.only [10] rfl, H.px7.px6.px5.px4.px3.px2.px1.px0.f1.fx3.fx2⟩
                    · rw [if_neg c140] at k_134
                      rw [Bool.eq_false_iff.2 c140] at F
                      refine ls (off F fun a F => ?_)
                      refine ls (off F fun a F => ?_)
                      refine ls (off F fun a F => ?_)
                      refine ls (off F fun a F => ?_)
                      refine ls (off F fun a F => ?_)
                      refine ls (off F fun a F => ?_)
                      refine ls (off F fun a F => ?_)
                      refine ls (off F fun a F => ?_)
                      refine ls (off F fun a F => ?_)
                      refine ls (qv F (r_pickF (F.ev (x := .tmp 90) rfl) (F.ev (x := .const (.bool false)) rfl)) fun a F => ?_)
                      refine as_ F rfl fun a F => ?_
                      refine wpList_nil ?_
                      replace F := F.only [10] (l' := [(10, .bool false)]) rfl
                      try dsimp only at k_134
                      obtain rfl := Option.some.inj k_134
                      exact ⟨_, rfl, F.only [10] rfl, H.px7.px6.px5.px4.px3.px2.px1.px0.f1.f3.fx3.fx2⟩
                  · rw [if_neg c139] at k_134
                    rw [Bool.eq_false_iff.2 c139] at F
                    refine ls (off F fun a F => ?_)
                    refine ls (off F fun a F => ?_)
                    refine ls (off F fun a F => ?_)
                    refine ls (qv F (r_pickF (F.ev (x := .tmp 85) rfl) (F.ev (x := .const (.bool false)) rfl)) fun a F => ?_)
                    refine mv F rfl fun a F => ?_
                    refine ls (off F fun a F => ?_)
                    refine ls (off F fun a F => ?_)
                    refine ls (off F fun a F => ?_)
                    refine ls (off F fun a F => ?_)
                    refine ls (off F fun a F => ?_)
                    refine ls (off F fun a F => ?_)
                    refine ls (off F fun a F => ?_)
                    refine ls (off F fun a F => ?_)
                    refine ls (off F fun a F => ?_)
                    refine ls (qv F (r_pickF (F.ev (x := .tmp 90) rfl) (F.ev (x := .const (.bool false)) rfl)) fun a F => ?_)
                    refine as_ F rfl fun a F => ?_
                    refine wpList_nil ?_
                    replace F := F.only [10] (l' := [(10, .bool false)]) rfl
                    try dsimp only at k_134
                    obtain rfl := Option.some.inj k_134
                    exact ⟨_, rfl, F.only [10] rfl, H.px7.px6.px5.px4.px3.px2.px1.px0.f1.f3.fx3.fx2⟩
                · rw [if_neg c136] at k_134
                  rw [Bool.eq_false_iff.2 c136] at F
                  refine ls (off F fun a F => ?_)
                  refine ls (off F fun a F => ?_)
                  refine ls (off F fun a F => ?_)
                  refine ls (qv F (r_pickF (F.ev (x := .tmp 80) rfl) (F.ev (x := .const (.bool false)) rfl)) fun a F => ?_)
                  refine mv F rfl fun a F => ?_
                  refine ls (off F fun a F => ?_)
                  refine ls (off F fun a F => ?_)
                  refine ls (off F fun a F => ?_)
                  refine ls (qv F (r_pickF (F.ev (x := .tmp 85) rfl) (F.ev (x := .const (.bool false)) rfl)) fun a F => ?_)
                  refine mv F rfl fun a F => ?_
                  refine ls (off F fun a F => ?_)
                  refine ls (off F fun a F => ?_)
                  refine ls (off F fun a F => ?_)
                  refine ls (off F fun a F => ?_)
                  refine ls (off F fun a F => ?_)
                  refine ls (off F fun a F => ?_)
                  refine ls (off F fun a F => ?_)
                  refine ls (off F fun a F => ?_)
                  refine ls (off F fun a F => ?_)
                  refine ls (qv F (r_pickF (F.ev (x := .tmp 90) rfl) (F.ev (x := .const (.bool false)) rfl)) fun a F => ?_)
                  refine as_ F rfl fun a F => ?_
                  refine wpList_nil ?_
                  replace F := F.only [10] (l' := [(10, .bool false)]) rfl
                  try dsimp only at k_134
                  obtain rfl := Option.some.inj k_134
                  exact ⟨_, rfl, F.only [10] rfl, H.px6.px5.px4.px3.px2.px1.px0.f1.f4.fx4.fx3.fx2⟩
              · rintro a w ⟨x134, rfl, F, H⟩
                try dsimp only at h F H
                refine wp_ret ?_
                try dsimp only at h
                obtain rfl := Option.some.inj h
                exact RET _ _ (ret1 F rfl rfl ⟨_, rfl, rfl, H.fx1.fx0⟩)
        · rw [if_neg c21] at h
          rw [Bool.eq_false_iff.2 c21] at F
          refine wp_cond_true (F.ev rfl) ?_
          refine rg ?_
          refine mv F rfl fun a F => ?_
          refine as_ F rfl fun a F => ?_
          refine rgend ?_
          replace F := F.only [10] (l' := [(10, .bool x1)]) rfl
          refine wp_ret ?_
          try dsimp only at h
          obtain rfl := Option.some.inj h
          exact RET _ _ (ret1 F rfl rfl ⟨_, rfl, rfl, H.px1.px0⟩)
end Go.Proofs.Ytdkdaggpfgajlaa
