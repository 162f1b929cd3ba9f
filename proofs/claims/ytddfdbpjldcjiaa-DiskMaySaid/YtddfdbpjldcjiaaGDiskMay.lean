/- What the functions compute. Printed by wip/gen. -/
import Derived.Test.YtddfdbpjldcjiaaGL
set_option linter.unusedVariables false
set_option linter.unusedSimpArgs false
namespace Go.Proofs.Ytddfdbpjldcjiaa
open Go Go.RowKit
def law15_DiskMay_b0 (a0 : List law15_Op) (a1 : List Bool) (a2 : Int) (a3 : Int) : ((List Int) × Int × Int × Int × disk_Disk) → Option ((List Int) × Int × Int × Int × disk_Disk ⊕ (List Int) × Int × Int × disk_Disk)
  | (x19, x22, x23, x24, x25) => (if x24 < (a0.length : Int) then (if 0 ≤ x24 ∧ x24 < (a0.length : Int) then (if ((a0.getD (x24 : Int).toNat (⟨0, 0, 0, [], 0, []⟩ : law15_Op)).What) < 0 then some (.inl (x19, x22, x23, IntKind.i64.wrap (x24 + 1), x25)) else (if ((a0.getD (x24 : Int).toNat (⟨0, 0, 0, [], 0, []⟩ : law15_Op)).What) > 3 then some (.inl (x19, x22, x23, IntKind.i64.wrap (x24 + 1), x25)) else ((law15_Fill_f ((a0.getD (x24 : Int).toNat (⟨0, 0, 0, [], 0, []⟩ : law15_Op)).C)).bind fun x46 => ((disk_Disk_Write_f x25 ((a0.getD (x24 : Int).toNat (⟨0, 0, 0, [], 0, []⟩ : law15_Op)).At) x46).bind fun (x50, x51) => (if x50 ≠ 0 then some (.inl (x19, x22, x23, IntKind.i64.wrap (x24 + 1), x51)) else (((if ((a0.getD (x24 : Int).toNat (⟨0, 0, 0, [], 0, []⟩ : law15_Op)).At) = ((IntKind.i64.wrap a3).tmod 6) then (((if x23 = (IntKind.i64.wrap a2) then some ([], 41) else (((if x23 < (a1.length : Int) then (if 0 ≤ x23 ∧ x23 < (a1.length : Int) then some (((a1.getD (x23 : Int).toNat false))) else none) else some false) : Option (Bool)).bind fun x66 => (((if x66 = true then ((law15_Fill_f ((a0.getD (x24 : Int).toNat (⟨0, 0, 0, [], 0, []⟩ : law15_Op)).C)).bind fun x79 => some (x79, 0)) else some (x19, x22)) : Option ((List Int) × Int)).bind fun (x73, x76) => some (x73, x76)))) : Option ((List Int) × Int)).bind fun (x60, x63) => some (x60, x63)) else some (x19, x22)) : Option ((List Int) × Int)).bind fun (x54, x57) => some (.inl (x54, x57, IntKind.i64.wrap (x23 + 1), IntKind.i64.wrap (x24 + 1), x51)))))))) else none) else some (.inr (x19, x22, x23, x25)))
def law15_DiskMay_f (a0 : List law15_Op) (a1 : List Bool) (a2 : Int) (a3 : Int) : Option (Bool) :=
  ((law15_head_f).bind fun x1 => ((disk_New_f 6).bind fun x3 => match x3 with | none => some false | some x5 => ((law15_Great_f a0).bind fun x7 => (if x7 = true then some x1 else (if (a1.length : Int) > 900 then some x1 else ((disk_Disk_Sync_f x5).bind fun (x11, x12) => ((disk_Disk_Read_f x12 ((IntKind.i64.wrap a3).tmod 6)).bind fun (x14, x15) => ((lp (law15_DiskMay_b0 a0 a1 a2 a3) (x14, x15, 0, 0, x12)).bind fun (x26, x29, x30, x31) => ((disk_Disk_Pending_f x31).bind fun x83 => ((disk_Disk_Crash_f x31 a1 (IntKind.i64.wrap a2)).bind fun x85 => ((disk_Disk_Read_f x85 ((IntKind.i64.wrap a3).tmod 6)).bind fun (x87, x88) => (((if x1 = true then (if x83 = x30 then (if x87 = x26 then (if x88 = x29 then ((disk_Disk_Pending_f x85).bind fun x100 => some ((decide (x100 = 0)))) else some false) else some false) else some false) else some false) : Option (Bool)).bind fun x92 => some x92))))))))))))
set_option maxHeartbeats 4000000 in
set_option maxRecDepth 20000 in
theorem law15_DiskMay_ok {w0 w : World} {ps : List PF} {fs : List SF} {a0 : List law15_Op} {A0_ : Option Addr} {c0_ : Nat} {a1 : List Bool} {A1_ : Option Addr} {c1_ : Nat} {a2 : Int} {a3 : Int} {r0 : Bool} (H : Hp w0 (rd k_law15_Op A0_ c0_ a0 :: rd kBool A1_ c1_ a1 :: ps) fs w) (h : law15_DiskMay_f a0 a1 a2 a3 = some r0) (ha3 : 0 ≤ a3 ∧ a3 < 256) :
    Calls Try.prog 5 [.slice A0_ a0.length c0_, .slice A1_ a1.length c1_, .int .i8 a2, .int .u8 a3].toArray w fun e w' => ∃ v, e = .returned v ∧ v = .bool r0 ∧ Hp w0 ps fs w' := by
  refine enter [.slice A0_ a0.length c0_, .slice A1_ a1.length c1_, .int .i8 a2, .int .u8 a3] 134 Try.func5 fun Q a NP RET NRM F => ?_
  replace NP : ∀ c a w, ¬ Q (.panic c) a w := fun c a w h => by rcases NP c a w h with h | ⟨w, v, h, _⟩ <;> cases h
  unfold law15_DiskMay_f at h
  refine rg ?_
  refine as_ F (v := .bool false) rfl fun a F => ?_
  refine rgend ?_
  refine rg ?_
  obtain ⟨x1, e2, h⟩ := Option.bind_eq_some_iff.1 h
  try dsimp only at h
  refine ls (call F Try.func10 (law15_head_ok (H) e2) rfl rfl fun v w hR a F => ?_)
  obtain ⟨rfl, H⟩ := hR
  refine as_ F rfl fun a F => ?_
  refine rgend ?_
  refine rg ?_
  obtain ⟨x3, e4, h⟩ := Option.bind_eq_some_iff.1 h
  try dsimp only at h
  rcases x3 with _ | x5
  · try dsimp only at h
    refine ls (call F Try.func12 (disk_New_ok (H) e4) rfl rfl fun v w hR a F => ?_)
    obtain ⟨rfl, H⟩ := hR
    refine as_ F rfl fun a F => ?_
    refine rgend ?_
    refine wp_seq ?_
    refine rg ?_
    refine mv F rfl fun a F => ?_
    refine ls (qv F (r_peq0 (F.ev (x := .tmp 22) rfl) (F.ev (x := .const (.pointer none)) rfl) Try.underlying25) fun a F => ?_)
    refine mv F rfl fun a F => ?_
    refine ls (off F fun a F => ?_)
    refine ls (off F fun a F => ?_)
    refine ls (qv F (r_pickT (F.ev (x := .tmp 24) rfl) (F.ev (x := .const (.bool true)) rfl)) fun a F => ?_)
    refine mv F rfl fun a F => ?_
    refine ls (off F fun a F => ?_)
    refine ls (off F fun a F => ?_)
    refine ls (off F fun a F => ?_)
    refine ls (qv F (r_pickT (F.ev (x := .tmp 28) rfl) (F.ev (x := .const (.bool true)) rfl)) fun a F => ?_)
    refine rgend ?_
    replace F := F.only [32, 10, 9, 0, 1, 2, 3] (l' := [(32, .bool true), (10, .pointer none), (9, .bool x1), (0, .slice A0_ a0.length c0_), (1, .slice A1_ a1.length c1_), (2, .int .i8 a2), (3, .int .u8 a3)]) rfl
    refine wp_cond_true (F.ev rfl) ?_
    refine wp_seq ?_
    refine wp_region_lit ?_
    refine mv F rfl fun a F => ?_
    refine ls (qv F (r_pne0 (F.ev (x := .tmp 33) rfl) (F.ev (x := .const (.pointer none)) rfl) Try.underlying25) fun a F => ?_)
    refine mv F rfl fun a F => ?_
    refine ls (off F fun a F => ?_)
    refine ls (qv F (r_pickF (F.ev (x := .tmp 35) rfl) (F.ev (x := .const (.bool false)) rfl)) fun a F => ?_)
    refine as_ F rfl fun a F => ?_
    refine wpList_nil ?_
    replace F := F.only [8] (l' := [(8, .bool false)]) rfl
    refine wp_ret ?_
    try dsimp only at h
    obtain rfl := Option.some.inj h
    exact RET _ _ (ret1 F rfl rfl ⟨_, rfl, rfl, H.px1.px0⟩)
  · try dsimp only at h
    refine ls (call F Try.func12 (disk_New_ok (H) e4) rfl rfl fun v w hR a F => ?_)
    obtain ⟨g6, rfl, H⟩ := hR
    refine as_ F rfl fun a F => ?_
    refine rgend ?_
    refine wp_seq ?_
    refine rg ?_
    refine mv F rfl fun a F => ?_
    refine ls (qv F (r_peq (F.ev (x := .tmp 22) rfl) (F.ev (x := .const (.pointer none)) rfl) Try.underlying25) fun a F => ?_)
    refine mv F rfl fun a F => ?_
    refine mv F rfl fun a F => ?_
    obtain ⟨x7, e8, h⟩ := Option.bind_eq_some_iff.1 h
    try dsimp only at h
    refine ls (call F Try.func11 (law15_Great_ok (H.p0) e8) rfl rfl fun v w hR a F => ?_)
    obtain ⟨rfl, H⟩ := hR
    refine ls (qv F (r_pickF (F.ev (x := .tmp 24) rfl) (F.ev (x := .tmp 26) rfl)) fun a F => ?_)
    refine mv F rfl fun a F => ?_
    by_cases c9 : x7 = true
    · rw [if_pos c9] at h
      rw [c9] at F
      refine ls (off F fun a F => ?_)
      refine ls (off F fun a F => ?_)
      refine ls (off F fun a F => ?_)
      refine ls (qv F (r_pickT (F.ev (x := .tmp 28) rfl) (F.ev (x := .const (.bool true)) rfl)) fun a F => ?_)
      refine rgend ?_
      replace F := F.only [32, 10, 9, 0, 1, 2, 3] (l' := [(32, .bool true), (10, .pointer (some ⟨g6, 0, none⟩)), (9, .bool x1), (0, .slice A0_ a0.length c0_), (1, .slice A1_ a1.length c1_), (2, .int .i8 a2), (3, .int .u8 a3)]) rfl
      refine wp_cond_true (F.ev rfl) ?_
      refine wp_seq ?_
      refine wp_region_lit ?_
      refine mv F rfl fun a F => ?_
      refine ls (qv F (r_pne (F.ev (x := .tmp 33) rfl) (F.ev (x := .const (.pointer none)) rfl) Try.underlying25) fun a F => ?_)
      refine mv F rfl fun a F => ?_
      refine mv F rfl fun a F => ?_
      refine ls (qv F (r_pickT (F.ev (x := .tmp 35) rfl) (F.ev (x := .tmp 36) rfl)) fun a F => ?_)
      refine as_ F rfl fun a F => ?_
      refine wpList_nil ?_
      replace F := F.only [8] (l' := [(8, .bool x1)]) rfl
      refine wp_ret ?_
      try dsimp only at h
      obtain rfl := Option.some.inj h
      exact RET _ _ (ret1 F rfl rfl ⟨_, rfl, rfl, H.px1.px0.fx0⟩)
    · rw [if_neg c9] at h
      rw [Bool.eq_false_iff.2 c9] at F
      refine mv F rfl fun a F => ?_
      refine ls (qv F (r_len (F.ev (x := .tmp 29) rfl) Try.underlying32) fun a F => ?_)
      refine ls (qv F (r_gt (F.ev (x := .tmp 30) rfl) (F.ev (x := .const (.int .i64 900)) rfl)) fun a F => ?_)
      refine ls (qv F (r_pickF (F.ev (x := .tmp 28) rfl) (F.ev (x := .tmp 31) rfl)) fun a F => ?_)
      refine rgend ?_
      replace F := F.only [32, 10, 9, 0, 1, 2, 3] (l' := [(32, .bool (decide ((a1.length : Int) > 900))), (10, .pointer (some ⟨g6, 0, none⟩)), (9, .bool x1), (0, .slice A0_ a0.length c0_), (1, .slice A1_ a1.length c1_), (2, .int .i8 a2), (3, .int .u8 a3)]) rfl
      by_cases c10 : (a1.length : Int) > 900
      · rw [if_pos c10] at h
        rw [decide_eq_true c10] at F
        refine wp_cond_true (F.ev rfl) ?_
        refine wp_seq ?_
        refine wp_region_lit ?_
        refine mv F rfl fun a F => ?_
        refine ls (qv F (r_pne (F.ev (x := .tmp 33) rfl) (F.ev (x := .const (.pointer none)) rfl) Try.underlying25) fun a F => ?_)
        refine mv F rfl fun a F => ?_
        refine mv F rfl fun a F => ?_
        refine ls (qv F (r_pickT (F.ev (x := .tmp 35) rfl) (F.ev (x := .tmp 36) rfl)) fun a F => ?_)
        refine as_ F rfl fun a F => ?_
        refine wpList_nil ?_
        replace F := F.only [8] (l' := [(8, .bool x1)]) rfl
        refine wp_ret ?_
        try dsimp only at h
        obtain rfl := Option.some.inj h
        exact RET _ _ (ret1 F rfl rfl ⟨_, rfl, rfl, H.px1.px0.fx0⟩)
      · rw [if_neg c10] at h
        rw [decide_eq_false c10] at F
        refine wp_cond_false (F.ev rfl) ?_
        refine wp_skip ?_
        refine rg ?_
        refine mv F rfl fun a F => ?_
        obtain ⟨⟨x11, x12⟩, e13, h⟩ := Option.bind_eq_some_iff.1 h
        try dsimp only at h
        refine ls (call F Try.func21 (disk_Disk_Sync_ok (H) e13) rfl rfl fun v w hR a F => ?_)
        obtain ⟨rfl, H⟩ := hR
        refine rgend ?_
        refine rg ?_
        refine mv F rfl fun a F => ?_
        refine ls (qv F (r_ci (F.ev (x := .tmp 40) rfl) Try.underlying3 Try.underlying5) fun a F => ?_)
        refine ls (qv F (r_rem (F.ev (x := .tmp 41) rfl) (F.ev (x := .const (.int .i64 6)) rfl) (by decide)) fun a F => ?_)
        refine as_ F rfl fun a F => ?_
        refine rgend ?_
        replace F := F.only [11, 10, 9, 0, 1, 2] (l' := [(11, .int .i64 ((IntKind.i64.wrap a3).tmod 6)), (10, .pointer (some ⟨g6, 0, none⟩)), (9, .bool x1), (0, .slice A0_ a0.length c0_), (1, .slice A1_ a1.length c1_), (2, .int .i8 a2)]) rfl
        refine rg ?_
        refine mv F rfl fun a F => ?_
        refine mv F rfl fun a F => ?_
        obtain ⟨⟨x14, x15⟩, e16, h⟩ := Option.bind_eq_some_iff.1 h
        try dsimp only at h
        refine ls (call F Try.func19 (disk_Disk_Read_ok (H) e16) rfl rfl fun v w hR a F => ?_)
        obtain ⟨A17, c18, rfl, H⟩ := hR
        refine mv F rfl fun a F => ?_
        refine ls (qv F (r_ex (F.ev (x := .tmp 43) rfl) rfl) fun a F => ?_)
        refine ls (qv F (r_ex (F.ev (x := .tmp 43) rfl) rfl) fun a F => ?_)
        refine as_ F rfl fun a F => ?_
        refine as_ F rfl fun a F => ?_
        refine rgend ?_
        replace F := F.only [13, 12, 11, 10, 9, 0, 1, 2] (l' := [(13, .int .i64 x15), (12, .slice A17 x14.length c18), (11, .int .i64 ((IntKind.i64.wrap a3).tmod 6)), (10, .pointer (some ⟨g6, 0, none⟩)), (9, .bool x1), (0, .slice A0_ a0.length c0_), (1, .slice A1_ a1.length c1_), (2, .int .i8 a2)]) rfl
        refine rg ?_
        refine as_ F (v := .int .i64 0) rfl fun a F => ?_
        refine rgend ?_
        refine wp_seq ?_
        refine rg ?_
        refine as_ F (v := .int .i64 0) rfl fun a F => ?_
        refine rgend ?_
        obtain ⟨o_31, k_31, h⟩ := Option.bind_eq_some_iff.1 h
        refine cut (fun a w => ∃ (x26 : List Int) (x29 : Int) (x30 : Int) (x31 : disk_Disk), (x26, x29, x30, x31) = o_31 ∧ ∃ (A27 : Option Addr) (c28 : Nat), Fr 134 [] [(1, .slice A1_ a1.length c1_), (2, .int .i8 a2), (9, .bool x1), (10, .pointer (some ⟨g6, 0, none⟩)), (11, .int .i64 ((IntKind.i64.wrap a3).tmod 6)), (12, .slice A27 x26.length c28), (13, .int .i64 x29), (14, .int .i64 x30)] a ∧ Hp w0 (rd kBool A1_ c1_ a1 :: ps) (own kByte 5 A27 c28 x26 :: obj_disk_Disk g6 x31 :: fs) w) (wp_block ?_) ?_
        · refine wloop (law15_DiskMay_b0 a0 a1 a2 a3) (fun (s : (List Int) × Int × Int × Int × disk_Disk) a w => ∃ (A20 : Option Addr) (c21 : Nat), Fr 134 [] [(0, .slice A0_ a0.length c0_), (1, .slice A1_ a1.length c1_), (2, .int .i8 a2), (9, .bool x1), (10, .pointer (some ⟨g6, 0, none⟩)), (11, .int .i64 ((IntKind.i64.wrap a3).tmod 6)), (12, .slice A20 s.1.length c21), (13, .int .i64 s.2.1), (14, .int .i64 s.2.2.1), (15, .int .i64 s.2.2.2.1)] a ∧ Hp w0 (rd k_law15_Op A0_ c0_ a0 :: rd kBool A1_ c1_ a1 :: ps) (own kByte 5 A20 c21 s.1 :: obj_disk_Disk g6 s.2.2.2.2 :: fs) w) k_31 ⟨A17, c18, F.only [0, 1, 2, 9, 10, 11, 12, 13, 14, 15] rfl, H⟩ ?_
          rintro ⟨x19, x22, x23, x24, x25⟩ a w q_31 j_31 u_31 ⟨A20, c21, F, H⟩
          unfold law15_DiskMay_b0 at j_31
          try dsimp only at j_31 F H
          refine wp_seq ?_
          refine rg ?_
          refine mv F rfl fun a F => ?_
          refine mv F rfl fun a F => ?_
          refine ls (qv F (r_len (F.ev (x := .tmp 50) rfl) Try.underlying22) fun a F => ?_)
          refine ls (qv F (r_lt (F.ev (x := .tmp 49) rfl) (F.ev (x := .tmp 51) rfl)) fun a F => ?_)
          refine rgend ?_
          by_cases c33 : x24 < (a0.length : Int)
          · rw [if_pos c33] at j_31
            rw [decide_eq_true c33] at F
            refine wp_cond_true (F.ev rfl) ?_
            refine wp_skip ?_
            refine wp_seq ?_
            refine wp_block ?_
            refine rg ?_
            refine mv F rfl fun a F => ?_
            refine mv F rfl fun a F => ?_
            obtain ⟨c34, j_31⟩ := guardO j_31
            obtain ⟨g35, o36, s37, hr, H⟩ := H.ix (⟨0, 0, 0, [], 0, []⟩ : law15_Op) 0 rfl (F.ev (x := .tmp 55) rfl) (F.ev (x := .tmp 56) rfl) Try.underlying22 sz34 (by decide) c34.1 c34.2
            obtain ⟨A39, c40, A41, c42, rfl, hr38, H⟩ := H.open_law15_Op 1 rfl
            refine ls (qv F (hr _ _ _ _ _ _) fun a F => ?_)
            refine ls (qv F (r_ldA (F.ev (x := .tmp 57) rfl) (H.range 2 rfl) agg34 rfl) fun a F => ?_)
            refine ls (lal F H ti34 (cs := [.int .i64 0, .int .i64 0, .int .u8 0, .slice none 0 0, .int .i64 0, .slice none 0 0]) rfl fun g43 w a H F => ?_)
            obtain ⟨_, hr, H⟩ := Hp.store (t := 34) (o := 0) (n := 6) (vs := [.int .i64 ((a0.getD (x24 : Int).toNat (⟨0, 0, 0, [], 0, []⟩ : law15_Op)).What), .int .i64 ((a0.getD (x24 : Int).toNat (⟨0, 0, 0, [], 0, []⟩ : law15_Op)).At), .int .u8 ((a0.getD (x24 : Int).toNat (⟨0, 0, 0, [], 0, []⟩ : law15_Op)).C), .slice A39 ((a0.getD (x24 : Int).toNat (⟨0, 0, 0, [], 0, []⟩ : law15_Op)).B).length c40, .int .i64 ((a0.getD (x24 : Int).toNat (⟨0, 0, 0, [], 0, []⟩ : law15_Op)).N), .slice A41 ((a0.getD (x24 : Int).toNat (⟨0, 0, 0, [], 0, []⟩ : law15_Op)).Keep).length c42]) (cs' := [.int .i64 ((a0.getD (x24 : Int).toNat (⟨0, 0, 0, [], 0, []⟩ : law15_Op)).What), .int .i64 ((a0.getD (x24 : Int).toNat (⟨0, 0, 0, [], 0, []⟩ : law15_Op)).At), .int .u8 ((a0.getD (x24 : Int).toNat (⟨0, 0, 0, [], 0, []⟩ : law15_Op)).C), .slice A39 ((a0.getD (x24 : Int).toNat (⟨0, 0, 0, [], 0, []⟩ : law15_Op)).B).length c40, .int .i64 ((a0.getD (x24 : Int).toNat (⟨0, 0, 0, [], 0, []⟩ : law15_Op)).N), .slice A41 ((a0.getD (x24 : Int).toNat (⟨0, 0, 0, [], 0, []⟩ : law15_Op)).Keep).length c42]) (H) (F.ev (x := .tmp 16) rfl) (F.ev (x := .tmp 58) rfl) rfl sz34 rfl (Nat.le_of_ble_eq_true rfl) rfl rfl
            refine ls (qn F (.inl rfl) (hr _ _ _ _) fun a F => ?_)
            refine rgend ?_
            replace F := F.only [16, 0, 1, 2, 9, 10, 11, 12, 13, 14, 15] (l' := [(16, .pointer (some ⟨g43, 0, none⟩)), (0, .slice A0_ a0.length c0_), (1, .slice A1_ a1.length c1_), (2, .int .i8 a2), (9, .bool x1), (10, .pointer (some ⟨g6, 0, none⟩)), (11, .int .i64 ((IntKind.i64.wrap a3).tmod 6)), (12, .slice A20 x19.length c21), (13, .int .i64 x22), (14, .int .i64 x23), (15, .int .i64 x24)]) rfl
            refine wp_seq ?_
            refine rg ?_
            refine ls (qv F (r_fa (off := 0) (F.ev (x := .tmp 16) rfl) fa34_0) fun a F => ?_)
            refine ls (qv F (r_ld (F.ev (x := .tmp 59) rfl) (cel_cell (o := 0) (H.cell 0 rfl) rfl) one3) fun a F => ?_)
            refine ls (qv F (r_lt (F.ev (x := .tmp 60) rfl) (F.ev (x := .const (.int .i64 0)) rfl)) fun a F => ?_)
            refine mv F rfl fun a F => ?_
            by_cases c44 : ((a0.getD (x24 : Int).toNat (⟨0, 0, 0, [], 0, []⟩ : law15_Op)).What) < 0
            · rw [if_pos c44] at j_31
              rw [decide_eq_true c44] at F
              refine ls (off F fun a F => ?_)
              refine ls (off F fun a F => ?_)
              refine ls (off F fun a F => ?_)
              refine ls (qv F (r_pickT (F.ev (x := .tmp 62) rfl) (F.ev (x := .const (.bool true)) rfl)) fun a F => ?_)
              refine rgend ?_
              replace F := F.only [66, 16, 0, 1, 2, 9, 10, 11, 12, 13, 14, 15] (l' := [(66, .bool true), (16, .pointer (some ⟨g43, 0, none⟩)), (0, .slice A0_ a0.length c0_), (1, .slice A1_ a1.length c1_), (2, .int .i8 a2), (9, .bool x1), (10, .pointer (some ⟨g6, 0, none⟩)), (11, .int .i64 ((IntKind.i64.wrap a3).tmod 6)), (12, .slice A20 x19.length c21), (13, .int .i64 x22), (14, .int .i64 x23), (15, .int .i64 x24)]) rfl
              refine wp_cond_true (F.ev rfl) ?_
              refine wp_exit ?_
              repeat (with_reducible refine exT ?_)
              with_reducible refine exB ?_
              refine wp_region_lit ?_
              refine mv F rfl fun a F => ?_
              refine ls (qv F (r_add (F.ev (x := .tmp 53) rfl) (F.ev (x := .const (.int .i64 1)) rfl)) fun a F => ?_)
              refine as_ F rfl fun a F => ?_
              refine wpList_nil ?_
              replace F := F.only [15, 0, 1, 2, 9, 10, 11, 12, 13, 14] (l' := [(15, .int .i64 (IntKind.i64.wrap (x24 + 1))), (0, .slice A0_ a0.length c0_), (1, .slice A1_ a1.length c1_), (2, .int .i8 a2), (9, .bool x1), (10, .pointer (some ⟨g6, 0, none⟩)), (11, .int .i64 ((IntKind.i64.wrap a3).tmod 6)), (12, .slice A20 x19.length c21), (13, .int .i64 x22), (14, .int .i64 x23)]) rfl
              try dsimp only at j_31
              obtain rfl := Option.some.inj j_31
              exact ⟨_, rfl, A20, c21, F.only [0, 1, 2, 9, 10, 11, 12, 13, 14, 15] rfl, H.px3.px2.px1.px0.fx0⟩
            · rw [if_neg c44] at j_31
              rw [decide_eq_false c44] at F
              refine ls (qv F (r_fa (off := 0) (F.ev (x := .tmp 16) rfl) fa34_0) fun a F => ?_)
              refine ls (qv F (r_ld (F.ev (x := .tmp 63) rfl) (cel_cell (o := 0) (H.cell 0 rfl) rfl) one3) fun a F => ?_)
              refine ls (qv F (r_gt (F.ev (x := .tmp 64) rfl) (F.ev (x := .const (.int .i64 3)) rfl)) fun a F => ?_)
              refine ls (qv F (r_pickF (F.ev (x := .tmp 62) rfl) (F.ev (x := .tmp 65) rfl)) fun a F => ?_)
              refine rgend ?_
              replace F := F.only [66, 16, 0, 1, 2, 9, 10, 11, 12, 13, 14, 15] (l' := [(66, .bool (decide (((a0.getD (x24 : Int).toNat (⟨0, 0, 0, [], 0, []⟩ : law15_Op)).What) > 3))), (16, .pointer (some ⟨g43, 0, none⟩)), (0, .slice A0_ a0.length c0_), (1, .slice A1_ a1.length c1_), (2, .int .i8 a2), (9, .bool x1), (10, .pointer (some ⟨g6, 0, none⟩)), (11, .int .i64 ((IntKind.i64.wrap a3).tmod 6)), (12, .slice A20 x19.length c21), (13, .int .i64 x22), (14, .int .i64 x23), (15, .int .i64 x24)]) rfl
              by_cases c45 : ((a0.getD (x24 : Int).toNat (⟨0, 0, 0, [], 0, []⟩ : law15_Op)).What) > 3
              · rw [if_pos c45] at j_31
                rw [decide_eq_true c45] at F
                refine wp_cond_true (F.ev rfl) ?_
                refine wp_exit ?_
                repeat (with_reducible refine exT ?_)
                with_reducible refine exB ?_
                refine wp_region_lit ?_
                refine mv F rfl fun a F => ?_
                refine ls (qv F (r_add (F.ev (x := .tmp 53) rfl) (F.ev (x := .const (.int .i64 1)) rfl)) fun a F => ?_)
                refine as_ F rfl fun a F => ?_
                refine wpList_nil ?_
                replace F := F.only [15, 0, 1, 2, 9, 10, 11, 12, 13, 14] (l' := [(15, .int .i64 (IntKind.i64.wrap (x24 + 1))), (0, .slice A0_ a0.length c0_), (1, .slice A1_ a1.length c1_), (2, .int .i8 a2), (9, .bool x1), (10, .pointer (some ⟨g6, 0, none⟩)), (11, .int .i64 ((IntKind.i64.wrap a3).tmod 6)), (12, .slice A20 x19.length c21), (13, .int .i64 x22), (14, .int .i64 x23)]) rfl
                try dsimp only at j_31
                obtain rfl := Option.some.inj j_31
                exact ⟨_, rfl, A20, c21, F.only [0, 1, 2, 9, 10, 11, 12, 13, 14, 15] rfl, H.px3.px2.px1.px0.fx0⟩
              · rw [if_neg c45] at j_31
                rw [decide_eq_false c45] at F
                refine wp_cond_false (F.ev rfl) ?_
                refine wp_skip ?_
                refine wp_seq ?_
                refine wp_seq ?_
                replace H := H.drew
                have HS := H.fx2.fx1
                refine dr (fun w => Hp w0 (rd kByte A39 c40 ((a0.getD (x24 : Int).toNat (⟨0, 0, 0, [], 0, []⟩ : law15_Op)).B) :: rd kBool A41 c42 ((a0.getD (x24 : Int).toNat (⟨0, 0, 0, [], 0, []⟩ : law15_Op)).Keep) :: celz g35 o36 [.int .i64 ((a0.getD (x24 : Int).toNat (⟨0, 0, 0, [], 0, []⟩ : law15_Op)).What), .int .i64 ((a0.getD (x24 : Int).toNat (⟨0, 0, 0, [], 0, []⟩ : law15_Op)).At), .int .u8 ((a0.getD (x24 : Int).toNat (⟨0, 0, 0, [], 0, []⟩ : law15_Op)).C), .slice A39 ((a0.getD (x24 : Int).toNat (⟨0, 0, 0, [], 0, []⟩ : law15_Op)).B).length c40, .int .i64 ((a0.getD (x24 : Int).toNat (⟨0, 0, 0, [], 0, []⟩ : law15_Op)).N), .slice A41 ((a0.getD (x24 : Int).toNat (⟨0, 0, 0, [], 0, []⟩ : law15_Op)).Keep).length c42] :: says k_law15_Op [.int .i64 ((a0.getD (x24 : Int).toNat (⟨0, 0, 0, [], 0, []⟩ : law15_Op)).What), .int .i64 ((a0.getD (x24 : Int).toNat (⟨0, 0, 0, [], 0, []⟩ : law15_Op)).At), .int .u8 ((a0.getD (x24 : Int).toNat (⟨0, 0, 0, [], 0, []⟩ : law15_Op)).C), .slice A39 ((a0.getD (x24 : Int).toNat (⟨0, 0, 0, [], 0, []⟩ : law15_Op)).B).length c40, .int .i64 ((a0.getD (x24 : Int).toNat (⟨0, 0, 0, [], 0, []⟩ : law15_Op)).N), .slice A41 ((a0.getD (x24 : Int).toNat (⟨0, 0, 0, [], 0, []⟩ : law15_Op)).Keep).length c42] ((a0.getD (x24 : Int).toNat (⟨0, 0, 0, [], 0, []⟩ : law15_Op))) :: rd k_law15_Op A0_ c0_ a0 :: rd kBool A1_ c1_ a1 :: ps) (cel g43 [.int .i64 ((a0.getD (x24 : Int).toNat (⟨0, 0, 0, [], 0, []⟩ : law15_Op)).What), .int .i64 ((a0.getD (x24 : Int).toNat (⟨0, 0, 0, [], 0, []⟩ : law15_Op)).At), .int .u8 ((a0.getD (x24 : Int).toNat (⟨0, 0, 0, [], 0, []⟩ : law15_Op)).C), .slice A39 ((a0.getD (x24 : Int).toNat (⟨0, 0, 0, [], 0, []⟩ : law15_Op)).B).length c40, .int .i64 ((a0.getD (x24 : Int).toNat (⟨0, 0, 0, [], 0, []⟩ : law15_Op)).N), .slice A41 ((a0.getD (x24 : Int).toNat (⟨0, 0, 0, [], 0, []⟩ : law15_Op)).Keep).length c42] 34 :: fs) w) _ (by kernel_rfl) ?_ (n := 8)
                refine dq 0 F rfl (by kernel_rfl) NP HS (fun w S => (r_mv (F.ev (x := .tmp 10) rfl))) fun a F => ?_
                refine dq 1 F rfl (by kernel_rfl) NP HS (fun w S => (r_fa (off := 1) (F.ev (x := .tmp 16) rfl) fa34_1)) fun a F => ?_
                refine dq 2 F rfl (by kernel_rfl) NP HS (fun w S => (r_ld (F.ev (x := .tmp 68) rfl) (cel_cell (o := 1) (S.cell 0 rfl) rfl) one3)) fun a F => ?_
                refine dq 3 F rfl (by kernel_rfl) NP HS (fun w S => (r_fa (off := 2) (F.ev (x := .tmp 16) rfl) fa34_2)) fun a F => ?_
                refine dq 4 F rfl (by kernel_rfl) NP HS (fun w S => (r_ld (F.ev (x := .tmp 70) rfl) (cel_cell (o := 2) (S.cell 0 rfl) rfl) one5)) fun a F => ?_
                obtain ⟨x46, e47, j_31⟩ := Option.bind_eq_some_iff.1 j_31
                try dsimp only at j_31
                refine d1 5 rfl (by kernel_rfl) (call F Try.func24 (law15_Fill_ok (H) e47 hr38) rfl rfl fun v w hR a F => ?_)
                obtain ⟨A48, c49, rfl, H⟩ := hR
                have HS := H.fx3.fx2.fx0
                refine kg _ HS (fun w S => S) ?_
                replace H := (H).freeze
                obtain ⟨⟨x50, x51⟩, e52, j_31⟩ := Option.bind_eq_some_iff.1 j_31
                try dsimp only at j_31
                refine d1 6 rfl (by kernel_rfl) (call F Try.func23 (disk_Disk_Write_ok (H.p0.f1.f1.f2) e52) rfl rfl fun v w hR a F => ?_)
                obtain ⟨rfl, H⟩ := hR
                have HS := H.fx2.fx0
                refine kg _ HS (fun w S => S.px0) ?_
                refine dq 7 F rfl (by kernel_rfl) NP HS (fun w S => (r_ne (F.ev (x := .tmp 73) rfl) (F.ev (x := .const (.int .i64 0)) rfl))) fun a F => ?_
                refine ddone (by kernel_rfl) ?_
                replace F := F.only [74, 16, 0, 1, 2, 9, 10, 11, 12, 13, 14, 15] (l' := [(74, .bool (decide (x50 ≠ 0))), (16, .pointer (some ⟨g43, 0, none⟩)), (0, .slice A0_ a0.length c0_), (1, .slice A1_ a1.length c1_), (2, .int .i8 a2), (9, .bool x1), (10, .pointer (some ⟨g6, 0, none⟩)), (11, .int .i64 ((IntKind.i64.wrap a3).tmod 6)), (12, .slice A20 x19.length c21), (13, .int .i64 x22), (14, .int .i64 x23), (15, .int .i64 x24)]) rfl
                by_cases c53 : x50 ≠ 0
                · rw [if_pos c53] at j_31
                  rw [decide_eq_true c53] at F
                  refine wp_cond_true (F.ev rfl) ?_
                  refine wp_exit ?_
                  repeat (with_reducible refine exT ?_)
                  with_reducible refine exB ?_
                  refine wp_region_lit ?_
                  refine mv F rfl fun a F => ?_
                  refine ls (qv F (r_add (F.ev (x := .tmp 53) rfl) (F.ev (x := .const (.int .i64 1)) rfl)) fun a F => ?_)
                  refine as_ F rfl fun a F => ?_
                  refine wpList_nil ?_
                  replace F := F.only [15, 0, 1, 2, 9, 10, 11, 12, 13, 14] (l' := [(15, .int .i64 (IntKind.i64.wrap (x24 + 1))), (0, .slice A0_ a0.length c0_), (1, .slice A1_ a1.length c1_), (2, .int .i8 a2), (9, .bool x1), (10, .pointer (some ⟨g6, 0, none⟩)), (11, .int .i64 ((IntKind.i64.wrap a3).tmod 6)), (12, .slice A20 x19.length c21), (13, .int .i64 x22), (14, .int .i64 x23)]) rfl
                  try dsimp only at j_31
                  obtain rfl := Option.some.inj j_31
                  exact ⟨_, rfl, A20, c21, F.only [0, 1, 2, 9, 10, 11, 12, 13, 14, 15] rfl, H.px4.px3.px2.px1.px0.f2.fx2⟩
                · rw [if_neg c53] at j_31
                  rw [decide_eq_false c53] at F
                  refine wp_cond_false (F.ev rfl) ?_
                  refine wp_skip ?_
                  refine wp_seq ?_
                  refine rg ?_
                  refine ls (qv F (r_fa (off := 1) (F.ev (x := .tmp 16) rfl) fa34_1) fun a F => ?_)
                  refine ls (qv F (r_ld (F.ev (x := .tmp 75) rfl) (cel_cell (o := 1) (H.cell 1 rfl) rfl) one3) fun a F => ?_)
                  refine mv F rfl fun a F => ?_
                  refine ls (qv F (r_eq (F.ev (x := .tmp 76) rfl) (F.ev (x := .tmp 77) rfl)) fun a F => ?_)
                  refine rgend ?_
                  replace F := F.only [78, 16, 0, 1, 2, 9, 10, 11, 12, 13, 14, 15] (l' := [(78, .bool (decide (((a0.getD (x24 : Int).toNat (⟨0, 0, 0, [], 0, []⟩ : law15_Op)).At) = ((IntKind.i64.wrap a3).tmod 6)))), (16, .pointer (some ⟨g43, 0, none⟩)), (0, .slice A0_ a0.length c0_), (1, .slice A1_ a1.length c1_), (2, .int .i8 a2), (9, .bool x1), (10, .pointer (some ⟨g6, 0, none⟩)), (11, .int .i64 ((IntKind.i64.wrap a3).tmod 6)), (12, .slice A20 x19.length c21), (13, .int .i64 x22), (14, .int .i64 x23), (15, .int .i64 x24)]) rfl
                  obtain ⟨o_57, k_57, j_31⟩ := Option.bind_eq_some_iff.1 j_31
                  refine cut (fun a w => ∃ (x54 : List Int) (x57 : Int), (x54, x57) = o_57 ∧ ∃ (A55 : Option Addr) (c56 : Nat), Fr 134 [] [(0, .slice A0_ a0.length c0_), (1, .slice A1_ a1.length c1_), (2, .int .i8 a2), (9, .bool x1), (10, .pointer (some ⟨g6, 0, none⟩)), (11, .int .i64 ((IntKind.i64.wrap a3).tmod 6)), (12, .slice A55 x54.length c56), (13, .int .i64 x57), (14, .int .i64 x23), (15, .int .i64 x24)] a ∧ Hp w0 (rd k_law15_Op A0_ c0_ a0 :: rd kBool A1_ c1_ a1 :: ps) (own kByte 5 A55 c56 x54 :: obj_disk_Disk g6 x51 :: fs) w) ?_ ?_
                  · skip
                    by_cases c59 : ((a0.getD (x24 : Int).toNat (⟨0, 0, 0, [], 0, []⟩ : law15_Op)).At) = ((IntKind.i64.wrap a3).tmod 6)
                    · rw [if_pos c59] at k_57
                      rw [decide_eq_true c59] at F
                      refine wp_cond_true (F.ev rfl) ?_
                      refine rg ?_
                      refine mv F rfl fun a F => ?_
                      refine mv F rfl fun a F => ?_
                      refine ls (qv F (r_ci (F.ev (x := .tmp 80) rfl) Try.underlying3 Try.underlying43) fun a F => ?_)
                      refine ls (qv F (r_eq (F.ev (x := .tmp 79) rfl) (F.ev (x := .tmp 81) rfl)) fun a F => ?_)
                      refine rgend ?_
                      replace F := F.only [82, 16, 0, 1, 2, 9, 10, 11, 12, 13, 14, 15] (l' := [(82, .bool (decide (x23 = (IntKind.i64.wrap a2)))), (16, .pointer (some ⟨g43, 0, none⟩)), (0, .slice A0_ a0.length c0_), (1, .slice A1_ a1.length c1_), (2, .int .i8 a2), (9, .bool x1), (10, .pointer (some ⟨g6, 0, none⟩)), (11, .int .i64 ((IntKind.i64.wrap a3).tmod 6)), (12, .slice A20 x19.length c21), (13, .int .i64 x22), (14, .int .i64 x23), (15, .int .i64 x24)]) rfl
                      obtain ⟨o_63, k_63, k_57⟩ := Option.bind_eq_some_iff.1 k_57
                      refine cut (fun a w => ∃ (x60 : List Int) (x63 : Int), (x60, x63) = o_63 ∧ ∃ (A61 : Option Addr) (c62 : Nat), Fr 134 [] [(0, .slice A0_ a0.length c0_), (1, .slice A1_ a1.length c1_), (2, .int .i8 a2), (9, .bool x1), (10, .pointer (some ⟨g6, 0, none⟩)), (11, .int .i64 ((IntKind.i64.wrap a3).tmod 6)), (12, .slice A61 x60.length c62), (13, .int .i64 x63), (14, .int .i64 x23), (15, .int .i64 x24)] a ∧ Hp w0 (rd k_law15_Op A0_ c0_ a0 :: rd kBool A1_ c1_ a1 :: ps) (own kByte 5 A61 c62 x60 :: obj_disk_Disk g6 x51 :: fs) w) ?_ ?_
                      · skip
                        by_cases c65 : x23 = (IntKind.i64.wrap a2)
                        · rw [if_pos c65] at k_63
                          rw [decide_eq_true c65] at F
                          refine wp_cond_true (F.ev rfl) ?_
                          refine rg ?_
                          refine as_ F (v := .slice none 0 0) rfl fun a F => ?_
                          refine rgend ?_
                          replace F := F.only [12, 0, 1, 2, 9, 10, 11, 14, 15] (l' := [(12, .slice none 0 0), (0, .slice A0_ a0.length c0_), (1, .slice A1_ a1.length c1_), (2, .int .i8 a2), (9, .bool x1), (10, .pointer (some ⟨g6, 0, none⟩)), (11, .int .i64 ((IntKind.i64.wrap a3).tmod 6)), (14, .int .i64 x23), (15, .int .i64 x24)]) rfl
                          refine wp_region_lit ?_
                          refine as_ F (v := .int .i64 41) rfl fun a F => ?_
                          refine wpList_nil ?_
                          replace H := H.nilOwn kByte 5
                          try dsimp only at k_63
                          obtain rfl := Option.some.inj k_63
                          exact ⟨_, _, rfl, none, 0, F.only [0, 1, 2, 9, 10, 11, 12, 13, 14, 15] rfl, H.px4.px3.px2.px1.px0.fx3.fx2⟩
                        · rw [if_neg c65] at k_63
                          rw [decide_eq_false c65] at F
                          refine wp_cond_false (F.ev rfl) ?_
                          refine wp_seq ?_
                          obtain ⟨o_66, k_66, k_63⟩ := Option.bind_eq_some_iff.1 k_63
                          refine cut (fun a w => ∃ (x66 : Bool), x66 = o_66 ∧ Fr 134 [] [(0, .slice A0_ a0.length c0_), (1, .slice A1_ a1.length c1_), (2, .int .i8 a2), (9, .bool x1), (10, .pointer (some ⟨g6, 0, none⟩)), (11, .int .i64 ((IntKind.i64.wrap a3).tmod 6)), (12, .slice A20 x19.length c21), (13, .int .i64 x22), (14, .int .i64 x23), (15, .int .i64 x24), (16, .pointer (some ⟨g43, 0, none⟩)), (92, .bool x66)] a ∧ Hp w0 (rd k_law15_Op A0_ c0_ a0 :: rd kBool A1_ c1_ a1 :: rd kByte A39 c40 ((a0.getD (x24 : Int).toNat (⟨0, 0, 0, [], 0, []⟩ : law15_Op)).B) :: rd kBool A41 c42 ((a0.getD (x24 : Int).toNat (⟨0, 0, 0, [], 0, []⟩ : law15_Op)).Keep) :: ps) (own kByte 5 A20 c21 x19 :: obj_disk_Disk g6 x51 :: cel g43 [.int .i64 ((a0.getD (x24 : Int).toNat (⟨0, 0, 0, [], 0, []⟩ : law15_Op)).What), .int .i64 ((a0.getD (x24 : Int).toNat (⟨0, 0, 0, [], 0, []⟩ : law15_Op)).At), .int .u8 ((a0.getD (x24 : Int).toNat (⟨0, 0, 0, [], 0, []⟩ : law15_Op)).C), .slice A39 ((a0.getD (x24 : Int).toNat (⟨0, 0, 0, [], 0, []⟩ : law15_Op)).B).length c40, .int .i64 ((a0.getD (x24 : Int).toNat (⟨0, 0, 0, [], 0, []⟩ : law15_Op)).N), .slice A41 ((a0.getD (x24 : Int).toNat (⟨0, 0, 0, [], 0, []⟩ : law15_Op)).Keep).length c42] 34 :: fs) w) ?_ ?_
                          · skip
                            refine wp_region_lit ?_
                            refine mv F rfl fun a F => ?_
                            refine mv F rfl fun a F => ?_
                            refine ls (qv F (r_len (F.ev (x := .tmp 84) rfl) Try.underlying32) fun a F => ?_)
                            refine ls (qv F (r_lt (F.ev (x := .tmp 83) rfl) (F.ev (x := .tmp 85) rfl)) fun a F => ?_)
                            refine mv F rfl fun a F => ?_
                            by_cases c68 : x23 < (a1.length : Int)
                            · rw [if_pos c68] at k_66
                              rw [decide_eq_true c68] at F
                              refine mv F rfl fun a F => ?_
                              refine mv F rfl fun a F => ?_
                              obtain ⟨c69, k_66⟩ := guardO k_66
                              obtain ⟨g70, o71, s72, hr, H⟩ := H.ix false 6 rfl (F.ev (x := .tmp 88) rfl) (F.ev (x := .tmp 89) rfl) Try.underlying32 sz4 (by decide) c69.1 c69.2
                              obtain rfl := H.says_bool 1 rfl
                              refine ls (qv F (hr _ _ _ _ _ _) fun a F => ?_)
                              refine ls (qv F (r_ld (F.ev (x := .tmp 90) rfl) (range_cell (j := 0) (H.range 0 rfl) rfl) one4) fun a F => ?_)
                              refine ls (qv F (r_pickT (F.ev (x := .tmp 87) rfl) (F.ev (x := .tmp 91) rfl)) fun a F => ?_)
                              refine wpList_nil ?_
                              replace F := F.only [92, 16, 0, 1, 2, 9, 10, 11, 12, 13, 14, 15] (l' := [(92, .bool ((a1.getD (x23 : Int).toNat false))), (16, .pointer (some ⟨g43, 0, none⟩)), (0, .slice A0_ a0.length c0_), (1, .slice A1_ a1.length c1_), (2, .int .i8 a2), (9, .bool x1), (10, .pointer (some ⟨g6, 0, none⟩)), (11, .int .i64 ((IntKind.i64.wrap a3).tmod 6)), (12, .slice A20 x19.length c21), (13, .int .i64 x22), (14, .int .i64 x23), (15, .int .i64 x24)]) rfl
                              try dsimp only at k_66
                              obtain rfl := Option.some.inj k_66
                              exact ⟨_, rfl, F.only [0, 1, 2, 9, 10, 11, 12, 13, 14, 15, 16, 92] rfl, H.p4.p4.p10.p10.px4.px4.px4.px4.px4.px4.px4.px4.px4.f1.f1.f2⟩
                            · rw [if_neg c68] at k_66
                              rw [decide_eq_false c68] at F
                              refine ls (off F fun a F => ?_)
                              refine ls (off F fun a F => ?_)
                              refine ls (off F fun a F => ?_)
                              refine ls (off F fun a F => ?_)
                              refine ls (qv F (r_pickF (F.ev (x := .tmp 87) rfl) (F.ev (x := .const (.bool false)) rfl)) fun a F => ?_)
                              refine wpList_nil ?_
                              replace F := F.only [92, 16, 0, 1, 2, 9, 10, 11, 12, 13, 14, 15] (l' := [(92, .bool false), (16, .pointer (some ⟨g43, 0, none⟩)), (0, .slice A0_ a0.length c0_), (1, .slice A1_ a1.length c1_), (2, .int .i8 a2), (9, .bool x1), (10, .pointer (some ⟨g6, 0, none⟩)), (11, .int .i64 ((IntKind.i64.wrap a3).tmod 6)), (12, .slice A20 x19.length c21), (13, .int .i64 x22), (14, .int .i64 x23), (15, .int .i64 x24)]) rfl
                              try dsimp only at k_66
                              obtain rfl := Option.some.inj k_66
                              exact ⟨_, rfl, F.only [0, 1, 2, 9, 10, 11, 12, 13, 14, 15, 16, 92] rfl, H.p2.p2.p8.p8.px4.px4.px4.px4.px4.px4.px4.f1.f1.f2⟩
                          · rintro a w ⟨x66, rfl, F, H⟩
                            try dsimp only at k_63 F H
                            obtain ⟨o_76, k_76, k_63⟩ := Option.bind_eq_some_iff.1 k_63
                            refine cut (fun a w => ∃ (x73 : List Int) (x76 : Int), (x73, x76) = o_76 ∧ ∃ (A74 : Option Addr) (c75 : Nat), Fr 134 [] [(0, .slice A0_ a0.length c0_), (1, .slice A1_ a1.length c1_), (2, .int .i8 a2), (9, .bool x1), (10, .pointer (some ⟨g6, 0, none⟩)), (11, .int .i64 ((IntKind.i64.wrap a3).tmod 6)), (12, .slice A74 x73.length c75), (13, .int .i64 x76), (14, .int .i64 x23), (15, .int .i64 x24)] a ∧ Hp w0 (rd k_law15_Op A0_ c0_ a0 :: rd kBool A1_ c1_ a1 :: ps) (own kByte 5 A74 c75 x73 :: obj_disk_Disk g6 x51 :: fs) w) ?_ ?_
                            · skip
                              by_cases c78 : x66 = true
                              · rw [if_pos c78] at k_76
                                rw [c78] at F
                                refine wp_cond_true (F.ev rfl) ?_
                                refine rg ?_
                                refine ls (qv F (r_fa (off := 2) (F.ev (x := .tmp 16) rfl) fa34_2) fun a F => ?_)
                                refine ls (qv F (r_ld (F.ev (x := .tmp 93) rfl) (cel_cell (o := 2) (H.cell 2 rfl) rfl) one5) fun a F => ?_)
                                obtain ⟨x79, e80, k_76⟩ := Option.bind_eq_some_iff.1 k_76
                                try dsimp only at k_76
                                refine ls (call F Try.func24 (law15_Fill_ok (H) e80 hr38) rfl rfl fun v w hR a F => ?_)
                                obtain ⟨A81, c82, rfl, H⟩ := hR
                                refine as_ F rfl fun a F => ?_
                                refine rgend ?_
                                replace F := F.only [12, 0, 1, 2, 9, 10, 11, 14, 15] (l' := [(12, .slice A81 x79.length c82), (0, .slice A0_ a0.length c0_), (1, .slice A1_ a1.length c1_), (2, .int .i8 a2), (9, .bool x1), (10, .pointer (some ⟨g6, 0, none⟩)), (11, .int .i64 ((IntKind.i64.wrap a3).tmod 6)), (14, .int .i64 x23), (15, .int .i64 x24)]) rfl
                                refine wp_region_lit ?_
                                refine as_ F (v := .int .i64 0) rfl fun a F => ?_
                                refine wpList_nil ?_
                                try dsimp only at k_76
                                obtain rfl := Option.some.inj k_76
                                exact ⟨_, _, rfl, A81, c82, F.only [0, 1, 2, 9, 10, 11, 12, 13, 14, 15] rfl, H.px3.px2.fx3.fx1⟩
                              · rw [if_neg c78] at k_76
                                rw [Bool.eq_false_iff.2 c78] at F
                                refine wp_cond_false (F.ev rfl) ?_
                                refine wp_skip ?_
                                try dsimp only at k_76
                                obtain rfl := Option.some.inj k_76
                                exact ⟨_, _, rfl, A20, c21, F.only [0, 1, 2, 9, 10, 11, 12, 13, 14, 15] rfl, H.px3.px2.fx2⟩
                            · rintro a w ⟨x73, x76, rfl, A74, c75, F, H⟩
                              try dsimp only at k_63 F H
                              try dsimp only at k_63
                              obtain rfl := Option.some.inj k_63
                              exact ⟨_, _, rfl, A74, c75, F.only [0, 1, 2, 9, 10, 11, 12, 13, 14, 15] rfl, H⟩
                      · rintro a w ⟨x60, x63, rfl, A61, c62, F, H⟩
                        try dsimp only at k_57 F H
                        try dsimp only at k_57
                        obtain rfl := Option.some.inj k_57
                        exact ⟨_, _, rfl, A61, c62, F.only [0, 1, 2, 9, 10, 11, 12, 13, 14, 15] rfl, H⟩
                    · rw [if_neg c59] at k_57
                      rw [decide_eq_false c59] at F
                      refine wp_cond_false (F.ev rfl) ?_
                      refine wp_skip ?_
                      try dsimp only at k_57
                      obtain rfl := Option.some.inj k_57
                      exact ⟨_, _, rfl, A20, c21, F.only [0, 1, 2, 9, 10, 11, 12, 13, 14, 15] rfl, H.px4.px3.px2.px1.px0.f2.fx2⟩
                  · rintro a w ⟨x54, x57, rfl, A55, c56, F, H⟩
                    try dsimp only at j_31 F H
                    refine wp_region_lit ?_
                    refine mv F rfl fun a F => ?_
                    refine ls (qv F (r_add (F.ev (x := .tmp 96) rfl) (F.ev (x := .const (.int .i64 1)) rfl)) fun a F => ?_)
                    refine as_ F rfl fun a F => ?_
                    refine wpList_nil ?_
                    refine wp_region_lit ?_
                    refine mv F rfl fun a F => ?_
                    refine ls (qv F (r_add (F.ev (x := .tmp 53) rfl) (F.ev (x := .const (.int .i64 1)) rfl)) fun a F => ?_)
                    refine as_ F rfl fun a F => ?_
                    refine wpList_nil ?_
                    replace F := F.only [15, 14, 0, 1, 2, 9, 10, 11, 12, 13] (l' := [(15, .int .i64 (IntKind.i64.wrap (x24 + 1))), (14, .int .i64 (IntKind.i64.wrap (x23 + 1))), (0, .slice A0_ a0.length c0_), (1, .slice A1_ a1.length c1_), (2, .int .i8 a2), (9, .bool x1), (10, .pointer (some ⟨g6, 0, none⟩)), (11, .int .i64 ((IntKind.i64.wrap a3).tmod 6)), (12, .slice A55 x54.length c56), (13, .int .i64 x57)]) rfl
                    try dsimp only at j_31
                    obtain rfl := Option.some.inj j_31
                    exact ⟨_, rfl, A55, c56, F.only [0, 1, 2, 9, 10, 11, 12, 13, 14, 15] rfl, H⟩
          · rw [if_neg c33] at j_31
            rw [decide_eq_false c33] at F
            refine wp_cond_false (F.ev rfl) ?_
            refine wp_exit ?_
            try dsimp only at j_31
            obtain rfl := Option.some.inj j_31
            obtain rfl := u_31 _ rfl
            repeat (with_reducible refine exT ?_)
            with_reducible refine exB ?_
            exact ⟨_, _, _, _, rfl, A20, c21, F.only [1, 2, 9, 10, 11, 12, 13, 14] rfl, H.px0⟩
        · rintro a w ⟨x26, x29, x30, x31, rfl, A27, c28, F, H⟩
          try dsimp only at h F H
          refine rg ?_
          refine mv F rfl fun a F => ?_
          obtain ⟨x83, e84, h⟩ := Option.bind_eq_some_iff.1 h
          try dsimp only at h
          refine ls (call F Try.func16 (disk_Disk_Pending_ok (H.f1) e84) rfl rfl fun v w hR a F => ?_)
          obtain ⟨rfl, H⟩ := hR
          refine as_ F rfl fun a F => ?_
          refine rgend ?_
          refine rg ?_
          refine mv F rfl fun a F => ?_
          refine mv F rfl fun a F => ?_
          refine mv F rfl fun a F => ?_
          refine ls (qv F (r_ci (F.ev (x := .tmp 102) rfl) Try.underlying3 Try.underlying43) fun a F => ?_)
          obtain ⟨x85, e86, h⟩ := Option.bind_eq_some_iff.1 h
          try dsimp only at h
          refine ls (call F Try.func22 (disk_Disk_Crash_ok (H.p0) e86) rfl rfl fun v w hR a F => ?_)
          obtain ⟨rfl, H⟩ := hR
          refine rgend ?_
          replace F := F.only [17, 9, 10, 11, 12, 13, 14] (l' := [(17, .int .i64 x83), (9, .bool x1), (10, .pointer (some ⟨g6, 0, none⟩)), (11, .int .i64 ((IntKind.i64.wrap a3).tmod 6)), (12, .slice A27 x26.length c28), (13, .int .i64 x29), (14, .int .i64 x30)]) rfl
          refine rg ?_
          refine mv F rfl fun a F => ?_
          refine mv F rfl fun a F => ?_
          obtain ⟨⟨x87, x88⟩, e89, h⟩ := Option.bind_eq_some_iff.1 h
          try dsimp only at h
          refine ls (call F Try.func19 (disk_Disk_Read_ok (H) e89) rfl rfl fun v w hR a F => ?_)
          obtain ⟨A90, c91, rfl, H⟩ := hR
          refine mv F rfl fun a F => ?_
          refine ls (qv F (r_ex (F.ev (x := .tmp 105) rfl) rfl) fun a F => ?_)
          refine ls (qv F (r_ex (F.ev (x := .tmp 105) rfl) rfl) fun a F => ?_)
          refine as_ F rfl fun a F => ?_
          refine as_ F rfl fun a F => ?_
          refine rgend ?_
          replace F := F.only [19, 18, 17, 9, 10, 12, 13, 14] (l' := [(19, .int .i64 x88), (18, .slice A90 x87.length c91), (17, .int .i64 x83), (9, .bool x1), (10, .pointer (some ⟨g6, 0, none⟩)), (12, .slice A27 x26.length c28), (13, .int .i64 x29), (14, .int .i64 x30)]) rfl
          refine wp_seq ?_
          obtain ⟨o_92, k_92, h⟩ := Option.bind_eq_some_iff.1 h
          refine cut (fun a w => ∃ (x92 : Bool), x92 = o_92 ∧ Fr 134 [] [(8, .bool x92)] a ∧ Hp w0 ps (obj_disk_Disk g6 x85 :: fs) w) ?_ ?_
          · skip
            refine wp_region_lit ?_
            refine mv F rfl fun a F => ?_
            refine mv F rfl fun a F => ?_
            by_cases c94 : x1 = true
            · rw [if_pos c94] at k_92
              rw [c94] at F
              refine mv F rfl fun a F => ?_
              refine mv F rfl fun a F => ?_
              refine ls (qv F (r_eq (F.ev (x := .tmp 113) rfl) (F.ev (x := .tmp 114) rfl)) fun a F => ?_)
              refine ls (qv F (r_pickT (F.ev (x := .tmp 112) rfl) (F.ev (x := .tmp 115) rfl)) fun a F => ?_)
              refine mv F rfl fun a F => ?_
              by_cases c95 : x83 = x30
              · rw [if_pos c95] at k_92
                rw [decide_eq_true c95] at F
                refine mv F rfl fun a F => ?_
                replace H := (H).freeze
                have hb96 := H.bytes 0 rfl
                refine ls (qv F (H.str 0 rfl (F.ev (x := .tmp 118) rfl) Try.underlying31 Try.underlying5 Try.underlying9) fun a F => ?_)
                refine mv F rfl fun a F => ?_
                replace H := (H.f1).freeze
                have hb97 := H.bytes 0 rfl
                refine ls (qv F (H.str 0 rfl (F.ev (x := .tmp 120) rfl) Try.underlying31 Try.underlying5 Try.underlying9) fun a F => ?_)
                refine ls (qv F (r_seq (F.ev (x := .tmp 119) rfl) (F.ev (x := .tmp 121) rfl) hb96 hb97) fun a F => ?_)
                refine ls (qv F (r_pickT (F.ev (x := .tmp 117) rfl) (F.ev (x := .tmp 122) rfl)) fun a F => ?_)
                refine mv F rfl fun a F => ?_
                by_cases c98 : x87 = x26
                · rw [if_pos c98] at k_92
                  rw [decide_eq_true c98] at F
                  refine mv F rfl fun a F => ?_
                  refine mv F rfl fun a F => ?_
                  refine ls (qv F (r_eq (F.ev (x := .tmp 125) rfl) (F.ev (x := .tmp 126) rfl)) fun a F => ?_)
                  refine ls (qv F (r_pickT (F.ev (x := .tmp 124) rfl) (F.ev (x := .tmp 127) rfl)) fun a F => ?_)
                  refine mv F rfl fun a F => ?_
                  by_cases c99 : x88 = x29
                  · rw [if_pos c99] at k_92
                    rw [decide_eq_true c99] at F
                    refine mv F rfl fun a F => ?_
                    obtain ⟨x100, e101, k_92⟩ := Option.bind_eq_some_iff.1 k_92
                    try dsimp only at k_92
                    refine ls (call F Try.func16 (disk_Disk_Pending_ok (H) e101) rfl rfl fun v w hR a F => ?_)
                    obtain ⟨rfl, H⟩ := hR
                    refine ls (qv F (r_eq (F.ev (x := .tmp 131) rfl) (F.ev (x := .const (.int .i64 0)) rfl)) fun a F => ?_)
                    refine ls (qv F (r_pickT (F.ev (x := .tmp 129) rfl) (F.ev (x := .tmp 132) rfl)) fun a F => ?_)
                    refine as_ F rfl fun a F => ?_
                    refine wpList_nil ?_
                    replace F := F.only [8] (l' := [(8, .bool (decide (x100 = 0)))]) rfl
                    try dsimp only at k_92
                    obtain rfl := Option.some.inj k_92
                    exact ⟨_, rfl, F.only [8] rfl, H.px2.px1.px0⟩
                  · rw [if_neg c99] at k_92
                    rw [decide_eq_false c99] at F
                    refine ls (off F fun a F => ?_)
                    refine ls (off F fun a F => ?_)
                    refine ls (off F fun a F => ?_)
                    refine ls (qv F (r_pickF (F.ev (x := .tmp 129) rfl) (F.ev (x := .const (.bool false)) rfl)) fun a F => ?_)
                    refine as_ F rfl fun a F => ?_
                    refine wpList_nil ?_
                    replace F := F.only [8] (l' := [(8, .bool false)]) rfl
                    try dsimp only at k_92
                    obtain rfl := Option.some.inj k_92
                    exact ⟨_, rfl, F.only [8] rfl, H.px2.px1.px0⟩
                · rw [if_neg c98] at k_92
                  rw [decide_eq_false c98] at F
                  refine ls (off F fun a F => ?_)
                  refine ls (off F fun a F => ?_)
                  refine ls (off F fun a F => ?_)
                  refine ls (qv F (r_pickF (F.ev (x := .tmp 124) rfl) (F.ev (x := .const (.bool false)) rfl)) fun a F => ?_)
                  refine mv F rfl fun a F => ?_
                  refine ls (off F fun a F => ?_)
                  refine ls (off F fun a F => ?_)
                  refine ls (off F fun a F => ?_)
                  refine ls (qv F (r_pickF (F.ev (x := .tmp 129) rfl) (F.ev (x := .const (.bool false)) rfl)) fun a F => ?_)
                  refine as_ F rfl fun a F => ?_
                  refine wpList_nil ?_
                  replace F := F.only [8] (l' := [(8, .bool false)]) rfl
                  try dsimp only at k_92
                  obtain rfl := Option.some.inj k_92
                  exact ⟨_, rfl, F.only [8] rfl, H.px2.px1.px0⟩
              · rw [if_neg c95] at k_92
                rw [decide_eq_false c95] at F
                refine ls (off F fun a F => ?_)
                refine ls (off F fun a F => ?_)
                refine ls (off F fun a F => ?_)
                refine ls (off F fun a F => ?_)
                refine ls (off F fun a F => ?_)
                refine ls (qv F (r_pickF (F.ev (x := .tmp 117) rfl) (F.ev (x := .const (.bool false)) rfl)) fun a F => ?_)
                refine mv F rfl fun a F => ?_
                refine ls (off F fun a F => ?_)
                refine ls (off F fun a F => ?_)
                refine ls (off F fun a F => ?_)
                refine ls (qv F (r_pickF (F.ev (x := .tmp 124) rfl) (F.ev (x := .const (.bool false)) rfl)) fun a F => ?_)
                refine mv F rfl fun a F => ?_
                refine ls (off F fun a F => ?_)
                refine ls (off F fun a F => ?_)
                refine ls (off F fun a F => ?_)
                refine ls (qv F (r_pickF (F.ev (x := .tmp 129) rfl) (F.ev (x := .const (.bool false)) rfl)) fun a F => ?_)
                refine as_ F rfl fun a F => ?_
                refine wpList_nil ?_
                replace F := F.only [8] (l' := [(8, .bool false)]) rfl
                try dsimp only at k_92
                obtain rfl := Option.some.inj k_92
                exact ⟨_, rfl, F.only [8] rfl, H.px0.fx2.fx0⟩
            · rw [if_neg c94] at k_92
              rw [Bool.eq_false_iff.2 c94] at F
              refine ls (off F fun a F => ?_)
              refine ls (off F fun a F => ?_)
              refine ls (off F fun a F => ?_)
              refine ls (qv F (r_pickF (F.ev (x := .tmp 112) rfl) (F.ev (x := .const (.bool false)) rfl)) fun a F => ?_)
              refine mv F rfl fun a F => ?_
              refine ls (off F fun a F => ?_)
              refine ls (off F fun a F => ?_)
              refine ls (off F fun a F => ?_)
              refine ls (off F fun a F => ?_)
              refine ls (off F fun a F => ?_)
              refine ls (qv F (r_pickF (F.ev (x := .tmp 117) rfl) (F.ev (x := .const (.bool false)) rfl)) fun a F => ?_)
              refine mv F rfl fun a F => ?_
              refine ls (off F fun a F => ?_)
              refine ls (off F fun a F => ?_)
              refine ls (off F fun a F => ?_)
              refine ls (qv F (r_pickF (F.ev (x := .tmp 124) rfl) (F.ev (x := .const (.bool false)) rfl)) fun a F => ?_)
              refine mv F rfl fun a F => ?_
              refine ls (off F fun a F => ?_)
              refine ls (off F fun a F => ?_)
              refine ls (off F fun a F => ?_)
              refine ls (qv F (r_pickF (F.ev (x := .tmp 129) rfl) (F.ev (x := .const (.bool false)) rfl)) fun a F => ?_)
              refine as_ F rfl fun a F => ?_
              refine wpList_nil ?_
              replace F := F.only [8] (l' := [(8, .bool false)]) rfl
              try dsimp only at k_92
              obtain rfl := Option.some.inj k_92
              exact ⟨_, rfl, F.only [8] rfl, H.px0.fx2.fx0⟩
          · rintro a w ⟨x92, rfl, F, H⟩
            try dsimp only at h F H
            refine wp_ret ?_
            try dsimp only at h
            obtain rfl := Option.some.inj h
            exact RET _ _ (ret1 F rfl rfl ⟨_, rfl, rfl, H.fx0⟩)
end Go.Proofs.Ytddfdbpjldcjiaa
