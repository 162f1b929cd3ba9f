/- What the functions compute. Printed by wip/gen. -/
import Derived.Test.YtddfdbpjldcjiaaGL
set_option linter.unusedVariables false
set_option linter.unusedSimpArgs false
namespace Go.Proofs.Ytddfdbpjldcjiaa
open Go Go.RowKit
def law15_DiskApart_b1 (a1 : Int) (a2 : Int) (x88 : disk_Disk) (x91 : disk_Disk) : (Bool × Int) → Option (Bool × Int ⊕ (Bool ⊕ Bool))
  | (x93, x94) => (if x94 < 6 then ((disk_Disk_Read_f x88 x94).bind fun (x98, x99) => ((disk_Disk_Read_f x91 x94).bind fun (x103, x104) => (((if ((IntKind.i64.wrap a1).tmod 6) ≠ ((IntKind.i64.wrap a2).tmod 6) then (if x98 ≠ x103 then some (x93, true) else some (x93, decide (x99 ≠ x104))) else (if x93 = true then some (true, false) else (if x98 ≠ x103 then some (false, true) else some (false, decide (x99 ≠ x104))))) : Option (Bool × Bool)).bind fun (x108, x109) => (if x109 = true then some (.inr (.inr false)) else some (.inl (x108, IntKind.i64.wrap (x94 + 1))))))) else some (.inr (.inl x93)))
def law15_DiskApart_b0 (a0 : List law15_Op) : (Int × disk_Disk × disk_Disk) → Option (Int × disk_Disk × disk_Disk ⊕ disk_Disk × disk_Disk)
  | (x18, x19, x20) => (if x18 < (a0.length : Int) then (if 0 ≤ x18 ∧ x18 < (a0.length : Int) then ((law15_Do_f x19 ((a0.getD (x18 : Int).toNat (⟨0, 0, 0, [], 0, []⟩ : law15_Op)))).bind fun (x34, x35) => (if 0 ≤ x18 ∧ x18 < (a0.length : Int) then ((law15_Do_f x20 ((a0.getD (x18 : Int).toNat (⟨0, 0, 0, [], 0, []⟩ : law15_Op)))).bind fun (x46, x47) => some (.inl (IntKind.i64.wrap (x18 + 1), x35, x47))) else none)) else none) else some (.inr (x19, x20)))
def law15_DiskApart_f (a0 : List law15_Op) (a1 : Int) (a2 : Int) (a3 : Int) (a4 : Int) (a5 : Bool) : Option (Bool) :=
  ((law15_head_f).bind fun x1 => ((disk_New_f 6).bind fun x3 => match x3 with | none => ((disk_New_f 6).bind fun x6 => match x6 with | none => some false | some x8 => some false) | some x5 => ((disk_New_f 6).bind fun x11 => match x11 with | none => some false | some x13 => ((law15_Great_f a0).bind fun x15 => (if x15 = true then some x1 else ((lp (law15_DiskApart_b0 a0) (0, x5, x13)).bind fun (x21, x22) => ((disk_Disk_Fuse_f x21 (-1)).bind fun x49 => ((disk_Disk_Fuse_f x22 (-1)).bind fun x51 => ((disk_Disk_Sync_f x49).bind fun (x53, x54) => ((disk_Disk_Sync_f x51).bind fun (x56, x57) => ((law15_Fill_f a3).bind fun x59 => ((disk_Disk_Write_f x54 ((IntKind.i64.wrap a1).tmod 6) x59).bind fun (x63, x64) => ((law15_Fill_f a4).bind fun x66 => ((disk_Disk_Write_f x64 ((IntKind.i64.wrap a2).tmod 6) x66).bind fun (x70, x71) => ((law15_Fill_f a4).bind fun x73 => ((disk_Disk_Write_f x57 ((IntKind.i64.wrap a2).tmod 6) x73).bind fun (x77, x78) => ((law15_Fill_f a3).bind fun x80 => ((disk_Disk_Write_f x78 ((IntKind.i64.wrap a1).tmod 6) x80).bind fun (x84, x85) => ((disk_Disk_Crash_f x71 ([a5, a5]) (-1)).bind fun x88 => ((disk_Disk_Crash_f x85 ([a5, a5]) (-1)).bind fun x91 => ((lp (law15_DiskApart_b1 a1 a2 x88 x91) (a5, 0)).bind fun q => match q with | .inl x95 => ((disk_Disk_Read_f x88 ((IntKind.i64.wrap a2).tmod 6)).bind fun (x120, x121) => (((if x1 = true then (if x95 = true then (if x121 = 0 then ((law15_Fill_f a4).bind fun x131 => some ((decide (x120 = x131)))) else some false) else some true) else some false) : Option (Bool)).bind fun x125 => some x125)) | .inr r => some r)))))))))))))))))))))
set_option maxHeartbeats 4000000 in
set_option maxRecDepth 20000 in
theorem law15_DiskApart_ok {w0 w : World} {ps : List PF} {fs : List SF} {a0 : List law15_Op} {A0_ : Option Addr} {c0_ : Nat} {a1 : Int} {a2 : Int} {a3 : Int} {a4 : Int} {a5 : Bool} {r0 : Bool} (H : Hp w0 (rd k_law15_Op A0_ c0_ a0 :: ps) fs w) (h : law15_DiskApart_f a0 a1 a2 a3 a4 a5 = some r0) (ha1 : 0 ≤ a1 ∧ a1 < 256) (ha2 : 0 ≤ a2 ∧ a2 < 256) (ha3 : 0 ≤ a3 ∧ a3 < 256) (ha4 : 0 ≤ a4 ∧ a4 < 256) :
    Calls Try.prog 9 [.slice A0_ a0.length c0_, .int .u8 a1, .int .u8 a2, .int .u8 a3, .int .u8 a4, .bool a5].toArray w fun e w' => ∃ v, e = .returned v ∧ v = .bool r0 ∧ Hp w0 ps fs w' := by
  refine enter [.slice A0_ a0.length c0_, .int .u8 a1, .int .u8 a2, .int .u8 a3, .int .u8 a4, .bool a5] 168 Try.func9 fun Q a NP RET NRM F => ?_
  replace NP : ∀ c a w, ¬ Q (.panic c) a w := fun c a w h => by rcases NP c a w h with h | ⟨w, v, h, _⟩ <;> cases h
  unfold law15_DiskApart_f at h
  refine rg ?_
  refine as_ F (v := .bool false) rfl fun a F => ?_
  refine rgend ?_
  refine rg ?_
  obtain ⟨x1, e2, h⟩ := Option.bind_eq_some_iff.1 h
  try dsimp only at h
  refine ls (call F Try.func10 (law15_head_ok (H) e2) rfl rfl fun v w hR a F => ?_)
  obtain ⟨rfl, H⟩ := hR
  refine as_ F rfl fun a F => ?_
  refine rgend ?_
  refine rg ?_
  obtain ⟨x3, e4, h⟩ := Option.bind_eq_some_iff.1 h
  try dsimp only at h
  rcases x3 with _ | x5
  · try dsimp only at h
    refine ls (call F Try.func12 (disk_New_ok (H) e4) rfl rfl fun v w hR a F => ?_)
    obtain ⟨rfl, H⟩ := hR
    refine as_ F rfl fun a F => ?_
    refine rgend ?_
    refine rg ?_
    obtain ⟨x6, e7, h⟩ := Option.bind_eq_some_iff.1 h
    try dsimp only at h
    rcases x6 with _ | x8
    · try dsimp only at h
      refine ls (call F Try.func12 (disk_New_ok (H) e7) rfl rfl fun v w hR a F => ?_)
      obtain ⟨rfl, H⟩ := hR
      refine as_ F rfl fun a F => ?_
      refine rgend ?_
      replace F := F.only [15, 14, 13, 0, 1, 2, 3, 4, 5] (l' := [(15, .pointer none), (14, .pointer none), (13, .bool x1), (0, .slice A0_ a0.length c0_), (1, .int .u8 a1), (2, .int .u8 a2), (3, .int .u8 a3), (4, .int .u8 a4), (5, .bool a5)]) rfl
      refine wp_seq ?_
      refine rg ?_
      refine mv F rfl fun a F => ?_
      refine ls (qv F (r_peq0 (F.ev (x := .tmp 29) rfl) (F.ev (x := .const (.pointer none)) rfl) Try.underlying25) fun a F => ?_)
      refine mv F rfl fun a F => ?_
      refine ls (off F fun a F => ?_)
      refine ls (off F fun a F => ?_)
      refine ls (qv F (r_pickT (F.ev (x := .tmp 31) rfl) (F.ev (x := .const (.bool true)) rfl)) fun a F => ?_)
      refine mv F rfl fun a F => ?_
      refine ls (off F fun a F => ?_)
      refine ls (off F fun a F => ?_)
      refine ls (qv F (r_pickT (F.ev (x := .tmp 35) rfl) (F.ev (x := .const (.bool true)) rfl)) fun a F => ?_)
      refine rgend ?_
      replace F := F.only [38, 15, 14, 13, 0, 1, 2, 3, 4, 5] (l' := [(38, .bool true), (15, .pointer none), (14, .pointer none), (13, .bool x1), (0, .slice A0_ a0.length c0_), (1, .int .u8 a1), (2, .int .u8 a2), (3, .int .u8 a3), (4, .int .u8 a4), (5, .bool a5)]) rfl
      refine wp_cond_true (F.ev rfl) ?_
      refine wp_seq ?_
      refine wp_region_lit ?_
      refine mv F rfl fun a F => ?_
      refine ls (qv F (r_pne0 (F.ev (x := .tmp 39) rfl) (F.ev (x := .const (.pointer none)) rfl) Try.underlying25) fun a F => ?_)
      refine mv F rfl fun a F => ?_
      refine ls (off F fun a F => ?_)
      refine ls (off F fun a F => ?_)
      refine ls (qv F (r_pickF (F.ev (x := .tmp 41) rfl) (F.ev (x := .const (.bool false)) rfl)) fun a F => ?_)
      refine mv F rfl fun a F => ?_
      refine ls (off F fun a F => ?_)
      refine ls (qv F (r_pickF (F.ev (x := .tmp 45) rfl) (F.ev (x := .const (.bool false)) rfl)) fun a F => ?_)
      refine as_ F rfl fun a F => ?_
      refine wpList_nil ?_
      replace F := F.only [12] (l' := [(12, .bool false)]) rfl
      refine wp_ret ?_
      try dsimp only at h
      obtain rfl := Option.some.inj h
      exact RET _ _ (ret1 F rfl rfl ⟨_, rfl, rfl, H.px0⟩)
    · try dsimp only at h
      refine ls (call F Try.func12 (disk_New_ok (H) e7) rfl rfl fun v w hR a F => ?_)
      obtain ⟨g9, rfl, H⟩ := hR
      refine as_ F rfl fun a F => ?_
      refine rgend ?_
      replace F := F.only [15, 14, 13, 0, 1, 2, 3, 4, 5] (l' := [(15, .pointer (some ⟨g9, 0, none⟩)), (14, .pointer none), (13, .bool x1), (0, .slice A0_ a0.length c0_), (1, .int .u8 a1), (2, .int .u8 a2), (3, .int .u8 a3), (4, .int .u8 a4), (5, .bool a5)]) rfl
      refine wp_seq ?_
      refine rg ?_
      refine mv F rfl fun a F => ?_
      refine ls (qv F (r_peq0 (F.ev (x := .tmp 29) rfl) (F.ev (x := .const (.pointer none)) rfl) Try.underlying25) fun a F => ?_)
      refine mv F rfl fun a F => ?_
      refine ls (off F fun a F => ?_)
      refine ls (off F fun a F => ?_)
      refine ls (qv F (r_pickT (F.ev (x := .tmp 31) rfl) (F.ev (x := .const (.bool true)) rfl)) fun a F => ?_)
      refine mv F rfl fun a F => ?_
      refine ls (off F fun a F => ?_)
      refine ls (off F fun a F => ?_)
      refine ls (qv F (r_pickT (F.ev (x := .tmp 35) rfl) (F.ev (x := .const (.bool true)) rfl)) fun a F => ?_)
      refine rgend ?_
      replace F := F.only [38, 15, 14, 13, 0, 1, 2, 3, 4, 5] (l' := [(38, .bool true), (15, .pointer (some ⟨g9, 0, none⟩)), (14, .pointer none), (13, .bool x1), (0, .slice A0_ a0.length c0_), (1, .int .u8 a1), (2, .int .u8 a2), (3, .int .u8 a3), (4, .int .u8 a4), (5, .bool a5)]) rfl
      refine wp_cond_true (F.ev rfl) ?_
      refine wp_seq ?_
      refine wp_region_lit ?_
      refine mv F rfl fun a F => ?_
      refine ls (qv F (r_pne0 (F.ev (x := .tmp 39) rfl) (F.ev (x := .const (.pointer none)) rfl) Try.underlying25) fun a F => ?_)
      refine mv F rfl fun a F => ?_
      refine ls (off F fun a F => ?_)
      refine ls (off F fun a F => ?_)
      refine ls (qv F (r_pickF (F.ev (x := .tmp 41) rfl) (F.ev (x := .const (.bool false)) rfl)) fun a F => ?_)
      refine mv F rfl fun a F => ?_
      refine ls (off F fun a F => ?_)
      refine ls (qv F (r_pickF (F.ev (x := .tmp 45) rfl) (F.ev (x := .const (.bool false)) rfl)) fun a F => ?_)
      refine as_ F rfl fun a F => ?_
      refine wpList_nil ?_
      replace F := F.only [12] (l' := [(12, .bool false)]) rfl
      refine wp_ret ?_
      try dsimp only at h
      obtain rfl := Option.some.inj h
      exact RET _ _ (ret1 F rfl rfl ⟨_, rfl, rfl, H.px0.fx0⟩)
  · try dsimp only at h
    refine ls (call F Try.func12 (disk_New_ok (H) e4) rfl rfl fun v w hR a F => ?_)
    obtain ⟨g10, rfl, H⟩ := hR
    refine as_ F rfl fun a F => ?_
    refine rgend ?_
    refine rg ?_
    obtain ⟨x11, e12, h⟩ := Option.bind_eq_some_iff.1 h
    try dsimp only at h
    rcases x11 with _ | x13
    · try dsimp only at h
      refine ls (call F Try.func12 (disk_New_ok (H) e12) rfl rfl fun v w hR a F => ?_)
      obtain ⟨rfl, H⟩ := hR
      refine as_ F rfl fun a F => ?_
      refine rgend ?_
      replace F := F.only [15, 14, 13, 0, 1, 2, 3, 4, 5] (l' := [(15, .pointer none), (14, .pointer (some ⟨g10, 0, none⟩)), (13, .bool x1), (0, .slice A0_ a0.length c0_), (1, .int .u8 a1), (2, .int .u8 a2), (3, .int .u8 a3), (4, .int .u8 a4), (5, .bool a5)]) rfl
      refine wp_seq ?_
      refine rg ?_
      refine mv F rfl fun a F => ?_
      refine ls (qv F (r_peq (F.ev (x := .tmp 29) rfl) (F.ev (x := .const (.pointer none)) rfl) Try.underlying25) fun a F => ?_)
      refine mv F rfl fun a F => ?_
      refine mv F rfl fun a F => ?_
      refine ls (qv F (r_peq0 (F.ev (x := .tmp 32) rfl) (F.ev (x := .const (.pointer none)) rfl) Try.underlying25) fun a F => ?_)
      refine ls (qv F (r_pickF (F.ev (x := .tmp 31) rfl) (F.ev (x := .tmp 33) rfl)) fun a F => ?_)
      refine mv F rfl fun a F => ?_
      refine ls (off F fun a F => ?_)
      refine ls (off F fun a F => ?_)
      refine ls (qv F (r_pickT (F.ev (x := .tmp 35) rfl) (F.ev (x := .const (.bool true)) rfl)) fun a F => ?_)
      refine rgend ?_
      replace F := F.only [38, 15, 14, 13, 0, 1, 2, 3, 4, 5] (l' := [(38, .bool true), (15, .pointer none), (14, .pointer (some ⟨g10, 0, none⟩)), (13, .bool x1), (0, .slice A0_ a0.length c0_), (1, .int .u8 a1), (2, .int .u8 a2), (3, .int .u8 a3), (4, .int .u8 a4), (5, .bool a5)]) rfl
      refine wp_cond_true (F.ev rfl) ?_
      refine wp_seq ?_
      refine wp_region_lit ?_
      refine mv F rfl fun a F => ?_
      refine ls (qv F (r_pne (F.ev (x := .tmp 39) rfl) (F.ev (x := .const (.pointer none)) rfl) Try.underlying25) fun a F => ?_)
      refine mv F rfl fun a F => ?_
      refine mv F rfl fun a F => ?_
      refine ls (qv F (r_pne0 (F.ev (x := .tmp 42) rfl) (F.ev (x := .const (.pointer none)) rfl) Try.underlying25) fun a F => ?_)
      refine ls (qv F (r_pickT (F.ev (x := .tmp 41) rfl) (F.ev (x := .tmp 43) rfl)) fun a F => ?_)
      refine mv F rfl fun a F => ?_
      refine ls (off F fun a F => ?_)
      refine ls (qv F (r_pickF (F.ev (x := .tmp 45) rfl) (F.ev (x := .const (.bool false)) rfl)) fun a F => ?_)
      refine as_ F rfl fun a F => ?_
      refine wpList_nil ?_
      replace F := F.only [12] (l' := [(12, .bool false)]) rfl
      refine wp_ret ?_
      try dsimp only at h
      obtain rfl := Option.some.inj h
      exact RET _ _ (ret1 F rfl rfl ⟨_, rfl, rfl, H.px0.fx0⟩)
    · try dsimp only at h
      refine ls (call F Try.func12 (disk_New_ok (H) e12) rfl rfl fun v w hR a F => ?_)
      obtain ⟨g14, rfl, H⟩ := hR
      refine as_ F rfl fun a F => ?_
      refine rgend ?_
      replace F := F.only [15, 14, 13, 0, 1, 2, 3, 4, 5] (l' := [(15, .pointer (some ⟨g14, 0, none⟩)), (14, .pointer (some ⟨g10, 0, none⟩)), (13, .bool x1), (0, .slice A0_ a0.length c0_), (1, .int .u8 a1), (2, .int .u8 a2), (3, .int .u8 a3), (4, .int .u8 a4), (5, .bool a5)]) rfl
      refine wp_seq ?_
      refine rg ?_
      refine mv F rfl fun a F => ?_
      refine ls (qv F (r_peq (F.ev (x := .tmp 29) rfl) (F.ev (x := .const (.pointer none)) rfl) Try.underlying25) fun a F => ?_)
      refine mv F rfl fun a F => ?_
      refine mv F rfl fun a F => ?_
      refine ls (qv F (r_peq (F.ev (x := .tmp 32) rfl) (F.ev (x := .const (.pointer none)) rfl) Try.underlying25) fun a F => ?_)
      refine ls (qv F (r_pickF (F.ev (x := .tmp 31) rfl) (F.ev (x := .tmp 33) rfl)) fun a F => ?_)
      refine mv F rfl fun a F => ?_
      refine mv F rfl fun a F => ?_
      obtain ⟨x15, e16, h⟩ := Option.bind_eq_some_iff.1 h
      try dsimp only at h
      refine ls (call F Try.func11 (law15_Great_ok (H.p0) e16) rfl rfl fun v w hR a F => ?_)
      obtain ⟨rfl, H⟩ := hR
      refine ls (qv F (r_pickF (F.ev (x := .tmp 35) rfl) (F.ev (x := .tmp 37) rfl)) fun a F => ?_)
      refine rgend ?_
      replace F := F.only [38, 15, 14, 13, 0, 1, 2, 3, 4, 5] (l' := [(38, .bool x15), (15, .pointer (some ⟨g14, 0, none⟩)), (14, .pointer (some ⟨g10, 0, none⟩)), (13, .bool x1), (0, .slice A0_ a0.length c0_), (1, .int .u8 a1), (2, .int .u8 a2), (3, .int .u8 a3), (4, .int .u8 a4), (5, .bool a5)]) rfl
      by_cases c17 : x15 = true
      · rw [if_pos c17] at h
        rw [c17] at F
        refine wp_cond_true (F.ev rfl) ?_
        refine wp_seq ?_
        refine wp_region_lit ?_
        refine mv F rfl fun a F => ?_
        refine ls (qv F (r_pne (F.ev (x := .tmp 39) rfl) (F.ev (x := .const (.pointer none)) rfl) Try.underlying25) fun a F => ?_)
        refine mv F rfl fun a F => ?_
        refine mv F rfl fun a F => ?_
        refine ls (qv F (r_pne (F.ev (x := .tmp 42) rfl) (F.ev (x := .const (.pointer none)) rfl) Try.underlying25) fun a F => ?_)
        refine ls (qv F (r_pickT (F.ev (x := .tmp 41) rfl) (F.ev (x := .tmp 43) rfl)) fun a F => ?_)
        refine mv F rfl fun a F => ?_
        refine mv F rfl fun a F => ?_
        refine ls (qv F (r_pickT (F.ev (x := .tmp 45) rfl) (F.ev (x := .tmp 46) rfl)) fun a F => ?_)
        refine as_ F rfl fun a F => ?_
        refine wpList_nil ?_
        replace F := F.only [12] (l' := [(12, .bool x1)]) rfl
        refine wp_ret ?_
        try dsimp only at h
        obtain rfl := Option.some.inj h
        exact RET _ _ (ret1 F rfl rfl ⟨_, rfl, rfl, H.px0.fx1.fx0⟩)
      · rw [if_neg c17] at h
        rw [Bool.eq_false_iff.2 c17] at F
        refine wp_cond_false (F.ev rfl) ?_
        refine wp_skip ?_
        refine wp_seq ?_
        refine rg ?_
        refine as_ F (v := .int .i64 0) rfl fun a F => ?_
        refine rgend ?_
        obtain ⟨o_22, k_22, h⟩ := Option.bind_eq_some_iff.1 h
        refine cut (fun a w => ∃ (x21 : disk_Disk) (x22 : disk_Disk), (x21, x22) = o_22 ∧ Fr 168 [] [(1, .int .u8 a1), (2, .int .u8 a2), (3, .int .u8 a3), (4, .int .u8 a4), (5, .bool a5), (13, .bool x1), (14, .pointer (some ⟨g10, 0, none⟩)), (15, .pointer (some ⟨g14, 0, none⟩))] a ∧ Hp w0 ps (obj_disk_Disk g10 x21 :: obj_disk_Disk g14 x22 :: fs) w) (wp_block ?_) ?_
        · refine wloop (law15_DiskApart_b0 a0) (fun (s : Int × disk_Disk × disk_Disk) a w => Fr 168 [] [(0, .slice A0_ a0.length c0_), (1, .int .u8 a1), (2, .int .u8 a2), (3, .int .u8 a3), (4, .int .u8 a4), (5, .bool a5), (13, .bool x1), (14, .pointer (some ⟨g10, 0, none⟩)), (15, .pointer (some ⟨g14, 0, none⟩)), (16, .int .i64 s.1)] a ∧ Hp w0 (rd k_law15_Op A0_ c0_ a0 :: ps) (obj_disk_Disk g10 s.2.1 :: obj_disk_Disk g14 s.2.2 :: fs) w) k_22 ⟨F.only [0, 1, 2, 3, 4, 5, 13, 14, 15, 16] rfl, H.f1⟩ ?_
          rintro ⟨x18, x19, x20⟩ a w q_22 j_22 u_22 ⟨F, H⟩
          unfold law15_DiskApart_b0 at j_22
          try dsimp only at j_22 F H
          refine wp_seq ?_
          refine rg ?_
          refine mv F rfl fun a F => ?_
          refine mv F rfl fun a F => ?_
          refine ls (qv F (r_len (F.ev (x := .tmp 49) rfl) Try.underlying22) fun a F => ?_)
          refine ls (qv F (r_lt (F.ev (x := .tmp 48) rfl) (F.ev (x := .tmp 50) rfl)) fun a F => ?_)
          refine rgend ?_
          by_cases c24 : x18 < (a0.length : Int)
          · rw [if_pos c24] at j_22
            rw [decide_eq_true c24] at F
            refine wp_cond_true (F.ev rfl) ?_
            refine wp_skip ?_
            refine wp_seq ?_
            refine wp_block ?_
            refine rg ?_
            refine mv F rfl fun a F => ?_
            refine mv F rfl fun a F => ?_
            refine mv F rfl fun a F => ?_
            obtain ⟨c25, j_22⟩ := guardO j_22
            obtain ⟨g26, o27, s28, hr, H⟩ := H.ix (⟨0, 0, 0, [], 0, []⟩ : law15_Op) 0 rfl (F.ev (x := .tmp 55) rfl) (F.ev (x := .tmp 56) rfl) Try.underlying22 sz34 (by decide) c25.1 c25.2
            obtain ⟨A30, c31, A32, c33, rfl, hr29, H⟩ := H.open_law15_Op 1 rfl
            refine ls (qv F (hr _ _ _ _ _ _) fun a F => ?_)
            refine ls (qv F (r_ldA (F.ev (x := .tmp 57) rfl) (H.range 2 rfl) agg34 rfl) fun a F => ?_)
            obtain ⟨⟨x34, x35⟩, e36, j_22⟩ := Option.bind_eq_some_iff.1 j_22
            try dsimp only at j_22
            refine ls (call F Try.func14 (law15_Do_ok (a1 := (a0.getD (x18 : Int).toNat (⟨0, 0, 0, [], 0, []⟩ : law15_Op))) (H.p1.p1) e36 hr29) rfl rfl fun v w hR a F => ?_)
            obtain ⟨rfl, H⟩ := hR
            refine rgend ?_
            replace F := F.only [0, 1, 2, 3, 4, 5, 13, 14, 15, 16] (l' := [(0, .slice A0_ a0.length c0_), (1, .int .u8 a1), (2, .int .u8 a2), (3, .int .u8 a3), (4, .int .u8 a4), (5, .bool a5), (13, .bool x1), (14, .pointer (some ⟨g10, 0, none⟩)), (15, .pointer (some ⟨g14, 0, none⟩)), (16, .int .i64 x18)]) rfl
            refine wp_region_lit ?_
            refine mv F rfl fun a F => ?_
            refine mv F rfl fun a F => ?_
            refine mv F rfl fun a F => ?_
            obtain ⟨c37, j_22⟩ := guardO j_22
            obtain ⟨g38, o39, s40, hr, H⟩ := H.ix (⟨0, 0, 0, [], 0, []⟩ : law15_Op) 4 rfl (F.ev (x := .tmp 61) rfl) (F.ev (x := .tmp 62) rfl) Try.underlying22 sz34 (by decide) c37.1 c37.2
            obtain ⟨A42, c43, A44, c45, rfl, hr41, H⟩ := H.open_law15_Op 1 rfl
            refine ls (qv F (hr _ _ _ _ _ _) fun a F => ?_)
            refine ls (qv F (r_ldA (F.ev (x := .tmp 63) rfl) (H.range 2 rfl) agg34 rfl) fun a F => ?_)
            obtain ⟨⟨x46, x47⟩, e48, j_22⟩ := Option.bind_eq_some_iff.1 j_22
            try dsimp only at j_22
            refine ls (call F Try.func14 (law15_Do_ok (a1 := (a0.getD (x18 : Int).toNat (⟨0, 0, 0, [], 0, []⟩ : law15_Op))) (H.p1.p1.f1) e48 hr41) rfl rfl fun v w hR a F => ?_)
            obtain ⟨rfl, H⟩ := hR
            refine wpList_nil ?_
            replace F := F.only [0, 1, 2, 3, 4, 5, 13, 14, 15, 16] (l' := [(0, .slice A0_ a0.length c0_), (1, .int .u8 a1), (2, .int .u8 a2), (3, .int .u8 a3), (4, .int .u8 a4), (5, .bool a5), (13, .bool x1), (14, .pointer (some ⟨g10, 0, none⟩)), (15, .pointer (some ⟨g14, 0, none⟩)), (16, .int .i64 x18)]) rfl
            refine wp_region_lit ?_
            refine mv F rfl fun a F => ?_
            refine ls (qv F (r_add (F.ev (x := .tmp 52) rfl) (F.ev (x := .const (.int .i64 1)) rfl)) fun a F => ?_)
            refine as_ F rfl fun a F => ?_
            refine wpList_nil ?_
            try dsimp only at j_22
            obtain rfl := Option.some.inj j_22
            exact ⟨_, rfl, F.only [0, 1, 2, 3, 4, 5, 13, 14, 15, 16] rfl, H.px7.px6.px5.px4.px3.px2.px1.px0.f1⟩
          · rw [if_neg c24] at j_22
            rw [decide_eq_false c24] at F
            refine wp_cond_false (F.ev rfl) ?_
            refine wp_exit ?_
            try dsimp only at j_22
            obtain rfl := Option.some.inj j_22
            obtain rfl := u_22 _ rfl
            repeat (with_reducible refine exT ?_)
            with_reducible refine exB ?_
            exact ⟨_, _, rfl, F.only [1, 2, 3, 4, 5, 13, 14, 15] rfl, H.px0⟩
        · rintro a w ⟨x21, x22, rfl, F, H⟩
          try dsimp only at h F H
          refine rg ?_
          refine mv F rfl fun a F => ?_
          refine ls (qv F (r_ci (F.ev (x := .tmp 66) rfl) Try.underlying3 Try.underlying5) fun a F => ?_)
          refine ls (qv F (r_rem (F.ev (x := .tmp 67) rfl) (F.ev (x := .const (.int .i64 6)) rfl) (by decide)) fun a F => ?_)
          refine as_ F rfl fun a F => ?_
          refine rgend ?_
          replace F := F.only [17, 2, 3, 4, 5, 13, 14, 15] (l' := [(17, .int .i64 ((IntKind.i64.wrap a1).tmod 6)), (2, .int .u8 a2), (3, .int .u8 a3), (4, .int .u8 a4), (5, .bool a5), (13, .bool x1), (14, .pointer (some ⟨g10, 0, none⟩)), (15, .pointer (some ⟨g14, 0, none⟩))]) rfl
          refine rg ?_
          refine mv F rfl fun a F => ?_
          refine ls (qv F (r_ci (F.ev (x := .tmp 69) rfl) Try.underlying3 Try.underlying5) fun a F => ?_)
          refine ls (qv F (r_rem (F.ev (x := .tmp 70) rfl) (F.ev (x := .const (.int .i64 6)) rfl) (by decide)) fun a F => ?_)
          refine as_ F rfl fun a F => ?_
          refine rgend ?_
          replace F := F.only [18, 17, 3, 4, 5, 13, 14, 15] (l' := [(18, .int .i64 ((IntKind.i64.wrap a2).tmod 6)), (17, .int .i64 ((IntKind.i64.wrap a1).tmod 6)), (3, .int .u8 a3), (4, .int .u8 a4), (5, .bool a5), (13, .bool x1), (14, .pointer (some ⟨g10, 0, none⟩)), (15, .pointer (some ⟨g14, 0, none⟩))]) rfl
          refine rg ?_
          refine mv F rfl fun a F => ?_
          obtain ⟨x49, e50, h⟩ := Option.bind_eq_some_iff.1 h
          try dsimp only at h
          refine ls (call F Try.func25 (disk_Disk_Fuse_ok (H) e50) rfl rfl fun v w hR a F => ?_)
          obtain ⟨rfl, H⟩ := hR
          refine rgend ?_
          refine rg ?_
          refine mv F rfl fun a F => ?_
          obtain ⟨x51, e52, h⟩ := Option.bind_eq_some_iff.1 h
          try dsimp only at h
          refine ls (call F Try.func25 (disk_Disk_Fuse_ok (H.f1) e52) rfl rfl fun v w hR a F => ?_)
          obtain ⟨rfl, H⟩ := hR
          refine rgend ?_
          replace F := F.only [18, 17, 3, 4, 5, 13, 14, 15] (l' := [(18, .int .i64 ((IntKind.i64.wrap a2).tmod 6)), (17, .int .i64 ((IntKind.i64.wrap a1).tmod 6)), (3, .int .u8 a3), (4, .int .u8 a4), (5, .bool a5), (13, .bool x1), (14, .pointer (some ⟨g10, 0, none⟩)), (15, .pointer (some ⟨g14, 0, none⟩))]) rfl
          refine rg ?_
          refine mv F rfl fun a F => ?_
          obtain ⟨⟨x53, x54⟩, e55, h⟩ := Option.bind_eq_some_iff.1 h
          try dsimp only at h
          refine ls (call F Try.func21 (disk_Disk_Sync_ok (H.f1) e55) rfl rfl fun v w hR a F => ?_)
          obtain ⟨rfl, H⟩ := hR
          refine rgend ?_
          refine rg ?_
          refine mv F rfl fun a F => ?_
          obtain ⟨⟨x56, x57⟩, e58, h⟩ := Option.bind_eq_some_iff.1 h
          try dsimp only at h
          refine ls (call F Try.func21 (disk_Disk_Sync_ok (H.f1) e58) rfl rfl fun v w hR a F => ?_)
          obtain ⟨rfl, H⟩ := hR
          refine rgend ?_
          replace F := F.only [18, 17, 3, 4, 5, 13, 14, 15] (l' := [(18, .int .i64 ((IntKind.i64.wrap a2).tmod 6)), (17, .int .i64 ((IntKind.i64.wrap a1).tmod 6)), (3, .int .u8 a3), (4, .int .u8 a4), (5, .bool a5), (13, .bool x1), (14, .pointer (some ⟨g10, 0, none⟩)), (15, .pointer (some ⟨g14, 0, none⟩))]) rfl
          refine rg ?_
          refine mv F rfl fun a F => ?_
          refine mv F rfl fun a F => ?_
          refine mv F rfl fun a F => ?_
          obtain ⟨x59, e60, h⟩ := Option.bind_eq_some_iff.1 h
          try dsimp only at h
          refine ls (call F Try.func24 (law15_Fill_ok (H) e60 ha3) rfl rfl fun v w hR a F => ?_)
          obtain ⟨A61, c62, rfl, H⟩ := hR
          replace H := (H).freeze
          obtain ⟨⟨x63, x64⟩, e65, h⟩ := Option.bind_eq_some_iff.1 h
          try dsimp only at h
          refine ls (call F Try.func23 (disk_Disk_Write_ok (H.p0.f1) e65) rfl rfl fun v w hR a F => ?_)
          obtain ⟨rfl, H⟩ := hR
          refine rgend ?_
          replace F := F.only [18, 17, 3, 4, 5, 13, 14, 15] (l' := [(18, .int .i64 ((IntKind.i64.wrap a2).tmod 6)), (17, .int .i64 ((IntKind.i64.wrap a1).tmod 6)), (3, .int .u8 a3), (4, .int .u8 a4), (5, .bool a5), (13, .bool x1), (14, .pointer (some ⟨g10, 0, none⟩)), (15, .pointer (some ⟨g14, 0, none⟩))]) rfl
          refine rg ?_
          refine mv F rfl fun a F => ?_
          refine mv F rfl fun a F => ?_
          refine mv F rfl fun a F => ?_
          obtain ⟨x66, e67, h⟩ := Option.bind_eq_some_iff.1 h
          try dsimp only at h
          refine ls (call F Try.func24 (law15_Fill_ok (H) e67 ha4) rfl rfl fun v w hR a F => ?_)
          obtain ⟨A68, c69, rfl, H⟩ := hR
          replace H := (H).freeze
          obtain ⟨⟨x70, x71⟩, e72, h⟩ := Option.bind_eq_some_iff.1 h
          try dsimp only at h
          refine ls (call F Try.func23 (disk_Disk_Write_ok (H.p0) e72) rfl rfl fun v w hR a F => ?_)
          obtain ⟨rfl, H⟩ := hR
          refine rgend ?_
          replace F := F.only [18, 17, 3, 4, 5, 13, 14, 15] (l' := [(18, .int .i64 ((IntKind.i64.wrap a2).tmod 6)), (17, .int .i64 ((IntKind.i64.wrap a1).tmod 6)), (3, .int .u8 a3), (4, .int .u8 a4), (5, .bool a5), (13, .bool x1), (14, .pointer (some ⟨g10, 0, none⟩)), (15, .pointer (some ⟨g14, 0, none⟩))]) rfl
          refine rg ?_
          refine mv F rfl fun a F => ?_
          refine mv F rfl fun a F => ?_
          refine mv F rfl fun a F => ?_
          obtain ⟨x73, e74, h⟩ := Option.bind_eq_some_iff.1 h
          try dsimp only at h
          refine ls (call F Try.func24 (law15_Fill_ok (H) e74 ha4) rfl rfl fun v w hR a F => ?_)
          obtain ⟨A75, c76, rfl, H⟩ := hR
          replace H := (H).freeze
          obtain ⟨⟨x77, x78⟩, e79, h⟩ := Option.bind_eq_some_iff.1 h
          try dsimp only at h
          refine ls (call F Try.func23 (disk_Disk_Write_ok (H.p0.f1) e79) rfl rfl fun v w hR a F => ?_)
          obtain ⟨rfl, H⟩ := hR
          refine rgend ?_
          replace F := F.only [18, 17, 3, 4, 5, 13, 14, 15] (l' := [(18, .int .i64 ((IntKind.i64.wrap a2).tmod 6)), (17, .int .i64 ((IntKind.i64.wrap a1).tmod 6)), (3, .int .u8 a3), (4, .int .u8 a4), (5, .bool a5), (13, .bool x1), (14, .pointer (some ⟨g10, 0, none⟩)), (15, .pointer (some ⟨g14, 0, none⟩))]) rfl
          refine rg ?_
          refine mv F rfl fun a F => ?_
          refine mv F rfl fun a F => ?_
          refine mv F rfl fun a F => ?_
          obtain ⟨x80, e81, h⟩ := Option.bind_eq_some_iff.1 h
          try dsimp only at h
          refine ls (call F Try.func24 (law15_Fill_ok (H) e81 ha3) rfl rfl fun v w hR a F => ?_)
          obtain ⟨A82, c83, rfl, H⟩ := hR
          replace H := (H).freeze
          obtain ⟨⟨x84, x85⟩, e86, h⟩ := Option.bind_eq_some_iff.1 h
          try dsimp only at h
          refine ls (call F Try.func23 (disk_Disk_Write_ok (H.p0) e86) rfl rfl fun v w hR a F => ?_)
          obtain ⟨rfl, H⟩ := hR
          refine rgend ?_
          replace F := F.only [18, 17, 4, 5, 13, 14, 15] (l' := [(18, .int .i64 ((IntKind.i64.wrap a2).tmod 6)), (17, .int .i64 ((IntKind.i64.wrap a1).tmod 6)), (4, .int .u8 a4), (5, .bool a5), (13, .bool x1), (14, .pointer (some ⟨g10, 0, none⟩)), (15, .pointer (some ⟨g14, 0, none⟩))]) rfl
          refine rg ?_
          refine mv F rfl fun a F => ?_
          refine mv F rfl fun a F => ?_
          refine mv F rfl fun a F => ?_
          refine ls (lbs F H (e := 4) (vs := [(0, .bool a5), (1, .bool a5)]) (cs := [.bool a5, .bool a5]) rfl (fun w => by kernel_rfl) fun g87 w a H F => ?_)
          replace H := Hp.litRd (kd := kBool) (xs := [a5, a5]) (H) ((SayL.cons (kd := kBool) (c1 := [.bool a5]) (y := a5) (fun Z hp => rfl) (SayL.cons (kd := kBool) (c1 := [.bool a5]) (y := a5) (fun Z hp => rfl) SayL.nil))) (Nat.le_of_ble_eq_true rfl)
          obtain ⟨x88, e89, h⟩ := Option.bind_eq_some_iff.1 h
          try dsimp only at h
          refine ls (call F Try.func22 (disk_Disk_Crash_ok (H.p0.f1) e89) rfl rfl fun v w hR a F => ?_)
          obtain ⟨rfl, H⟩ := hR
          refine rgend ?_
          replace F := F.only [18, 17, 4, 5, 13, 14, 15] (l' := [(18, .int .i64 ((IntKind.i64.wrap a2).tmod 6)), (17, .int .i64 ((IntKind.i64.wrap a1).tmod 6)), (4, .int .u8 a4), (5, .bool a5), (13, .bool x1), (14, .pointer (some ⟨g10, 0, none⟩)), (15, .pointer (some ⟨g14, 0, none⟩))]) rfl
          refine rg ?_
          refine mv F rfl fun a F => ?_
          refine mv F rfl fun a F => ?_
          refine mv F rfl fun a F => ?_
          refine ls (lbs F H (e := 4) (vs := [(0, .bool a5), (1, .bool a5)]) (cs := [.bool a5, .bool a5]) rfl (fun w => by kernel_rfl) fun g90 w a H F => ?_)
          replace H := Hp.litRd (kd := kBool) (xs := [a5, a5]) (H) ((SayL.cons (kd := kBool) (c1 := [.bool a5]) (y := a5) (fun Z hp => rfl) (SayL.cons (kd := kBool) (c1 := [.bool a5]) (y := a5) (fun Z hp => rfl) SayL.nil))) (Nat.le_of_ble_eq_true rfl)
          obtain ⟨x91, e92, h⟩ := Option.bind_eq_some_iff.1 h
          try dsimp only at h
          refine ls (call F Try.func22 (disk_Disk_Crash_ok (H.p0.f1) e92) rfl rfl fun v w hR a F => ?_)
          obtain ⟨rfl, H⟩ := hR
          refine rgend ?_
          replace F := F.only [18, 17, 4, 5, 13, 14, 15] (l' := [(18, .int .i64 ((IntKind.i64.wrap a2).tmod 6)), (17, .int .i64 ((IntKind.i64.wrap a1).tmod 6)), (4, .int .u8 a4), (5, .bool a5), (13, .bool x1), (14, .pointer (some ⟨g10, 0, none⟩)), (15, .pointer (some ⟨g14, 0, none⟩))]) rfl
          refine wp_seq ?_
          refine rg ?_
          refine as_ F (v := .int .i64 0) rfl fun a F => ?_
          refine rgend ?_
          obtain ⟨o_95, k_95, h⟩ := Option.bind_eq_some_iff.1 h
          refine cut (fun a w => ∃ (x95 : Bool), Sum.inl x95 = o_95 ∧ Fr 168 [] [(4, .int .u8 a4), (5, .bool x95), (13, .bool x1), (14, .pointer (some ⟨g10, 0, none⟩)), (18, .int .i64 ((IntKind.i64.wrap a2).tmod 6))] a ∧ Hp w0 ps (obj_disk_Disk g10 x88 :: obj_disk_Disk g14 x91 :: fs) w) (wp_block ?_) ?_
          · refine wloop (law15_DiskApart_b1 a1 a2 x88 x91) (fun (s : Bool × Int) a w => Fr 168 [] [(4, .int .u8 a4), (5, .bool s.1), (13, .bool x1), (14, .pointer (some ⟨g10, 0, none⟩)), (15, .pointer (some ⟨g14, 0, none⟩)), (17, .int .i64 ((IntKind.i64.wrap a1).tmod 6)), (18, .int .i64 ((IntKind.i64.wrap a2).tmod 6)), (19, .int .i64 s.2)] a ∧ Hp w0 ps (obj_disk_Disk g10 x88 :: obj_disk_Disk g14 x91 :: fs) w) k_95 ⟨F.only [4, 5, 13, 14, 15, 17, 18, 19] rfl, H.px5.px4.px3.px2.px1.px0.f1⟩ ?_
            rintro ⟨x93, x94⟩ a w q_95 j_95 u_95 ⟨F, H⟩
            unfold law15_DiskApart_b1 at j_95
            try dsimp only at j_95 F H
            refine wp_seq ?_
            refine rg ?_
            refine mv F rfl fun a F => ?_
            refine ls (qv F (r_lt (F.ev (x := .tmp 110) rfl) (F.ev (x := .const (.int .i64 6)) rfl)) fun a F => ?_)
            refine rgend ?_
            by_cases c97 : x94 < 6
            · rw [if_pos c97] at j_95
              rw [decide_eq_true c97] at F
              refine wp_cond_true (F.ev rfl) ?_
              refine wp_skip ?_
              refine wp_seq ?_
              refine wp_block ?_
              refine rg ?_
              refine mv F rfl fun a F => ?_
              refine mv F rfl fun a F => ?_
              obtain ⟨⟨x98, x99⟩, e100, j_95⟩ := Option.bind_eq_some_iff.1 j_95
              try dsimp only at j_95
              refine ls (call F Try.func19 (disk_Disk_Read_ok (H) e100) rfl rfl fun v w hR a F => ?_)
              obtain ⟨A101, c102, rfl, H⟩ := hR
              refine mv F rfl fun a F => ?_
              refine ls (qv F (r_ex (F.ev (x := .tmp 114) rfl) rfl) fun a F => ?_)
              refine ls (qv F (r_ex (F.ev (x := .tmp 114) rfl) rfl) fun a F => ?_)
              refine as_ F rfl fun a F => ?_
              refine as_ F rfl fun a F => ?_
              refine rgend ?_
              replace F := F.only [21, 20, 4, 5, 13, 14, 15, 17, 18, 19] (l' := [(21, .int .i64 x99), (20, .slice A101 x98.length c102), (4, .int .u8 a4), (5, .bool x93), (13, .bool x1), (14, .pointer (some ⟨g10, 0, none⟩)), (15, .pointer (some ⟨g14, 0, none⟩)), (17, .int .i64 ((IntKind.i64.wrap a1).tmod 6)), (18, .int .i64 ((IntKind.i64.wrap a2).tmod 6)), (19, .int .i64 x94)]) rfl
              refine rg ?_
              refine mv F rfl fun a F => ?_
              refine mv F rfl fun a F => ?_
              obtain ⟨⟨x103, x104⟩, e105, j_95⟩ := Option.bind_eq_some_iff.1 j_95
              try dsimp only at j_95
              refine ls (call F Try.func19 (disk_Disk_Read_ok (H.f1.f1.f2) e105) rfl rfl fun v w hR a F => ?_)
              obtain ⟨A106, c107, rfl, H⟩ := hR
              refine mv F rfl fun a F => ?_
              refine ls (qv F (r_ex (F.ev (x := .tmp 120) rfl) rfl) fun a F => ?_)
              refine ls (qv F (r_ex (F.ev (x := .tmp 120) rfl) rfl) fun a F => ?_)
              refine as_ F rfl fun a F => ?_
              refine as_ F rfl fun a F => ?_
              refine rgend ?_
              replace F := F.only [23, 22, 21, 20, 4, 5, 13, 14, 15, 17, 18, 19] (l' := [(23, .int .i64 x104), (22, .slice A106 x103.length c107), (21, .int .i64 x99), (20, .slice A101 x98.length c102), (4, .int .u8 a4), (5, .bool x93), (13, .bool x1), (14, .pointer (some ⟨g10, 0, none⟩)), (15, .pointer (some ⟨g14, 0, none⟩)), (17, .int .i64 ((IntKind.i64.wrap a1).tmod 6)), (18, .int .i64 ((IntKind.i64.wrap a2).tmod 6)), (19, .int .i64 x94)]) rfl
              refine wp_seq ?_
              obtain ⟨o_109, k_109, j_95⟩ := Option.bind_eq_some_iff.1 j_95
              refine cut (fun a w => ∃ (x108 : Bool) (x109 : Bool), (x108, x109) = o_109 ∧ Fr 168 [] [(4, .int .u8 a4), (5, .bool x108), (13, .bool x1), (14, .pointer (some ⟨g10, 0, none⟩)), (15, .pointer (some ⟨g14, 0, none⟩)), (17, .int .i64 ((IntKind.i64.wrap a1).tmod 6)), (18, .int .i64 ((IntKind.i64.wrap a2).tmod 6)), (19, .int .i64 x94), (144, .bool x109)] a ∧ Hp w0 ps (obj_disk_Disk g10 x88 :: obj_disk_Disk g14 x91 :: fs) w) ?_ ?_
              · skip
                refine wp_region_lit ?_
                refine mv F rfl fun a F => ?_
                refine mv F rfl fun a F => ?_
                refine ls (qv F (r_ne (F.ev (x := .tmp 126) rfl) (F.ev (x := .tmp 127) rfl)) fun a F => ?_)
                refine mv F rfl fun a F => ?_
                by_cases c111 : ((IntKind.i64.wrap a1).tmod 6) ≠ ((IntKind.i64.wrap a2).tmod 6)
                · rw [if_pos c111] at k_109
                  rw [decide_eq_true c111] at F
                  refine ls (off F fun a F => ?_)
                  refine ls (off F fun a F => ?_)
                  refine ls (qv F (r_pickT (F.ev (x := .tmp 129) rfl) (F.ev (x := .const (.bool true)) rfl)) fun a F => ?_)
                  refine mv F rfl fun a F => ?_
                  refine mv F rfl fun a F => ?_
                  replace H := (H.f3.f2.f2.f3).freeze
                  have hb112 := H.bytes 0 rfl
                  refine ls (qv F (H.str 0 rfl (F.ev (x := .tmp 134) rfl) Try.underlying31 Try.underlying5 Try.underlying9) fun a F => ?_)
                  refine mv F rfl fun a F => ?_
                  replace H := (H).freeze
                  have hb113 := H.bytes 0 rfl
                  refine ls (qv F (H.str 0 rfl (F.ev (x := .tmp 136) rfl) Try.underlying31 Try.underlying5 Try.underlying9) fun a F => ?_)
                  refine ls (qv F (r_sne (F.ev (x := .tmp 135) rfl) (F.ev (x := .tmp 137) rfl) hb112 hb113) fun a F => ?_)
                  refine mv F rfl fun a F => ?_
                  by_cases c114 : x98 ≠ x103
                  · rw [if_pos c114] at k_109
                    rw [decide_eq_true c114] at F
                    refine ls (off F fun a F => ?_)
                    refine ls (off F fun a F => ?_)
                    refine ls (off F fun a F => ?_)
                    refine ls (qv F (r_pickT (F.ev (x := .tmp 139) rfl) (F.ev (x := .const (.bool true)) rfl)) fun a F => ?_)
                    refine ls (qv F (r_pickT (F.ev (x := .tmp 133) rfl) (F.ev (x := .tmp 143) rfl)) fun a F => ?_)
                    refine wpList_nil ?_
                    replace F := F.only [144, 4, 5, 13, 14, 15, 17, 18, 19] (l' := [(144, .bool true), (4, .int .u8 a4), (5, .bool x93), (13, .bool x1), (14, .pointer (some ⟨g10, 0, none⟩)), (15, .pointer (some ⟨g14, 0, none⟩)), (17, .int .i64 ((IntKind.i64.wrap a1).tmod 6)), (18, .int .i64 ((IntKind.i64.wrap a2).tmod 6)), (19, .int .i64 x94)]) rfl
                    try dsimp only at k_109
                    obtain rfl := Option.some.inj k_109
                    exact ⟨_, _, rfl, F.only [4, 5, 13, 14, 15, 17, 18, 19, 144] rfl, H.px1.px0.f1⟩
                  · rw [if_neg c114] at k_109
                    rw [decide_eq_false c114] at F
                    refine mv F rfl fun a F => ?_
                    refine mv F rfl fun a F => ?_
                    refine ls (qv F (r_ne (F.ev (x := .tmp 140) rfl) (F.ev (x := .tmp 141) rfl)) fun a F => ?_)
                    refine ls (qv F (r_pickF (F.ev (x := .tmp 139) rfl) (F.ev (x := .tmp 142) rfl)) fun a F => ?_)
                    refine ls (qv F (r_pickT (F.ev (x := .tmp 133) rfl) (F.ev (x := .tmp 143) rfl)) fun a F => ?_)
                    refine wpList_nil ?_
                    replace F := F.only [144, 4, 5, 13, 14, 15, 17, 18, 19] (l' := [(144, .bool (decide (x99 ≠ x104))), (4, .int .u8 a4), (5, .bool x93), (13, .bool x1), (14, .pointer (some ⟨g10, 0, none⟩)), (15, .pointer (some ⟨g14, 0, none⟩)), (17, .int .i64 ((IntKind.i64.wrap a1).tmod 6)), (18, .int .i64 ((IntKind.i64.wrap a2).tmod 6)), (19, .int .i64 x94)]) rfl
                    try dsimp only at k_109
                    obtain rfl := Option.some.inj k_109
                    exact ⟨_, _, rfl, F.only [4, 5, 13, 14, 15, 17, 18, 19, 144] rfl, H.px1.px0.f1⟩
                · rw [if_neg c111] at k_109
                  rw [decide_eq_false c111] at F
                  refine mv F rfl fun a F => ?_
                  refine ls (qv F (r_not (F.ev (x := .tmp 130) rfl)) fun a F => ?_)
                  refine ls (qv F (r_pickF (F.ev (x := .tmp 129) rfl) (F.ev (x := .tmp 131) rfl)) fun a F => ?_)
                  refine mv F rfl fun a F => ?_
                  by_cases c115 : x93 = true
                  · rw [if_pos c115] at k_109
                    rw [c115] at F
                    refine ls (off F fun a F => ?_)
                    refine ls (off F fun a F => ?_)
                    refine ls (off F fun a F => ?_)
                    refine ls (off F fun a F => ?_)
                    refine ls (off F fun a F => ?_)
                    refine ls (off F fun a F => ?_)
                    refine ls (off F fun a F => ?_)
                    refine ls (off F fun a F => ?_)
                    refine ls (off F fun a F => ?_)
                    refine ls (off F fun a F => ?_)
                    refine ls (qv F (r_pickF (F.ev (x := .tmp 133) rfl) (F.ev (x := .const (.bool false)) rfl)) fun a F => ?_)
                    refine wpList_nil ?_
                    replace F := F.only [144, 4, 5, 13, 14, 15, 17, 18, 19] (l' := [(144, .bool false), (4, .int .u8 a4), (5, .bool true), (13, .bool x1), (14, .pointer (some ⟨g10, 0, none⟩)), (15, .pointer (some ⟨g14, 0, none⟩)), (17, .int .i64 ((IntKind.i64.wrap a1).tmod 6)), (18, .int .i64 ((IntKind.i64.wrap a2).tmod 6)), (19, .int .i64 x94)]) rfl
                    try dsimp only at k_109
                    obtain rfl := Option.some.inj k_109
                    exact ⟨_, _, rfl, F.only [4, 5, 13, 14, 15, 17, 18, 19, 144] rfl, H.f1.f3.fx3.fx2⟩
                  · rw [if_neg c115] at k_109
                    rw [Bool.eq_false_iff.2 c115] at F
                    refine mv F rfl fun a F => ?_
                    replace H := (H.f3.f2.f2.f3).freeze
                    have hb116 := H.bytes 0 rfl
                    refine ls (qv F (H.str 0 rfl (F.ev (x := .tmp 134) rfl) Try.underlying31 Try.underlying5 Try.underlying9) fun a F => ?_)
                    refine mv F rfl fun a F => ?_
                    replace H := (H).freeze
                    have hb117 := H.bytes 0 rfl
                    refine ls (qv F (H.str 0 rfl (F.ev (x := .tmp 136) rfl) Try.underlying31 Try.underlying5 Try.underlying9) fun a F => ?_)
                    refine ls (qv F (r_sne (F.ev (x := .tmp 135) rfl) (F.ev (x := .tmp 137) rfl) hb116 hb117) fun a F => ?_)
                    refine mv F rfl fun a F => ?_
                    by_cases c118 : x98 ≠ x103
                    · rw [if_pos c118] at k_109
                      rw [decide_eq_true c118] at F
                      refine ls (off F fun a F => ?_)
                      refine ls (off F fun a F => ?_)
                      refine ls (off F fun a F => ?_)
                      refine ls (qv F (r_pickT (F.ev (x := .tmp 139) rfl) (F.ev (x := .const (.bool true)) rfl)) fun a F => ?_)
                      refine ls (qv F (r_pickT (F.ev (x := .tmp 133) rfl) (F.ev (x := .tmp 143) rfl)) fun a F => ?_)
                      refine wpList_nil ?_
                      replace F := F.only [144, 4, 5, 13, 14, 15, 17, 18, 19] (l' := [(144, .bool true), (4, .int .u8 a4), (5, .bool false), (13, .bool x1), (14, .pointer (some ⟨g10, 0, none⟩)), (15, .pointer (some ⟨g14, 0, none⟩)), (17, .int .i64 ((IntKind.i64.wrap a1).tmod 6)), (18, .int .i64 ((IntKind.i64.wrap a2).tmod 6)), (19, .int .i64 x94)]) rfl
                      try dsimp only at k_109
                      obtain rfl := Option.some.inj k_109
                      exact ⟨_, _, rfl, F.only [4, 5, 13, 14, 15, 17, 18, 19, 144] rfl, H.px1.px0.f1⟩
                    · rw [if_neg c118] at k_109
                      rw [decide_eq_false c118] at F
                      refine mv F rfl fun a F => ?_
                      refine mv F rfl fun a F => ?_
                      refine ls (qv F (r_ne (F.ev (x := .tmp 140) rfl) (F.ev (x := .tmp 141) rfl)) fun a F => ?_)
                      refine ls (qv F (r_pickF (F.ev (x := .tmp 139) rfl) (F.ev (x := .tmp 142) rfl)) fun a F => ?_)
                      refine ls (qv F (r_pickT (F.ev (x := .tmp 133) rfl) (F.ev (x := .tmp 143) rfl)) fun a F => ?_)
                      refine wpList_nil ?_
                      replace F := F.only [144, 4, 5, 13, 14, 15, 17, 18, 19] (l' := [(144, .bool (decide (x99 ≠ x104))), (4, .int .u8 a4), (5, .bool false), (13, .bool x1), (14, .pointer (some ⟨g10, 0, none⟩)), (15, .pointer (some ⟨g14, 0, none⟩)), (17, .int .i64 ((IntKind.i64.wrap a1).tmod 6)), (18, .int .i64 ((IntKind.i64.wrap a2).tmod 6)), (19, .int .i64 x94)]) rfl
                      try dsimp only at k_109
                      obtain rfl := Option.some.inj k_109
                      exact ⟨_, _, rfl, F.only [4, 5, 13, 14, 15, 17, 18, 19, 144] rfl, H.px1.px0.f1⟩
              · rintro a w ⟨x108, x109, rfl, F, H⟩
                try dsimp only at j_95 F H
                by_cases c119 : x109 = true
                · rw [if_pos c119] at j_95
                  rw [c119] at F
                  refine wp_cond_true (F.ev rfl) ?_
                  refine rg ?_
                  refine as_ F (v := .bool false) rfl fun a F => ?_
                  refine rgend ?_
                  replace F := F.only [12] (l' := [(12, .bool false)]) rfl
                  refine wp_ret ?_
                  try dsimp only at j_95
                  obtain rfl := Option.some.inj j_95
                  obtain rfl := u_95 _ rfl
                  try dsimp only at h
                  obtain rfl := Option.some.inj h
                  exact RET _ _ (ret1 F rfl rfl ⟨_, rfl, rfl, H.fx1.fx0⟩)
                · rw [if_neg c119] at j_95
                  rw [Bool.eq_false_iff.2 c119] at F
                  refine wp_cond_false (F.ev rfl) ?_
                  refine wp_skip ?_
                  refine wp_region_lit ?_
                  refine mv F rfl fun a F => ?_
                  refine ls (qv F (r_add (F.ev (x := .tmp 112) rfl) (F.ev (x := .const (.int .i64 1)) rfl)) fun a F => ?_)
                  refine as_ F rfl fun a F => ?_
                  refine wpList_nil ?_
                  replace F := F.only [19, 4, 5, 13, 14, 15, 17, 18] (l' := [(19, .int .i64 (IntKind.i64.wrap (x94 + 1))), (4, .int .u8 a4), (5, .bool x108), (13, .bool x1), (14, .pointer (some ⟨g10, 0, none⟩)), (15, .pointer (some ⟨g14, 0, none⟩)), (17, .int .i64 ((IntKind.i64.wrap a1).tmod 6)), (18, .int .i64 ((IntKind.i64.wrap a2).tmod 6))]) rfl
                  try dsimp only at j_95
                  obtain rfl := Option.some.inj j_95
                  exact ⟨_, rfl, F.only [4, 5, 13, 14, 15, 17, 18, 19] rfl, H⟩
            · rw [if_neg c97] at j_95
              rw [decide_eq_false c97] at F
              refine wp_cond_false (F.ev rfl) ?_
              refine wp_exit ?_
              try dsimp only at j_95
              obtain rfl := Option.some.inj j_95
              obtain rfl := u_95 _ rfl
              repeat (with_reducible refine exT ?_)
              with_reducible refine exB ?_
              exact ⟨_, rfl, F.only [4, 5, 13, 14, 18] rfl, H⟩
          · rintro a w ⟨x95, rfl, F, H⟩
            try dsimp only at h F H
            refine rg ?_
            refine mv F rfl fun a F => ?_
            refine mv F rfl fun a F => ?_
            obtain ⟨⟨x120, x121⟩, e122, h⟩ := Option.bind_eq_some_iff.1 h
            try dsimp only at h
            refine ls (call F Try.func19 (disk_Disk_Read_ok (H) e122) rfl rfl fun v w hR a F => ?_)
            obtain ⟨A123, c124, rfl, H⟩ := hR
            refine mv F rfl fun a F => ?_
            refine ls (qv F (r_ex (F.ev (x := .tmp 145) rfl) rfl) fun a F => ?_)
            refine ls (qv F (r_ex (F.ev (x := .tmp 145) rfl) rfl) fun a F => ?_)
            refine as_ F rfl fun a F => ?_
            refine as_ F rfl fun a F => ?_
            refine rgend ?_
            replace F := F.only [25, 24, 4, 5, 13] (l' := [(25, .int .i64 x121), (24, .slice A123 x120.length c124), (4, .int .u8 a4), (5, .bool x95), (13, .bool x1)]) rfl
            refine wp_seq ?_
            obtain ⟨o_125, k_125, h⟩ := Option.bind_eq_some_iff.1 h
            refine cut (fun a w => ∃ (x125 : Bool), x125 = o_125 ∧ Fr 168 [] [(12, .bool x125)] a ∧ Hp w0 ps (obj_disk_Disk g10 x88 :: obj_disk_Disk g14 x91 :: fs) w) ?_ ?_
            · skip
              replace H := H.drew
              have HS := H.fx2.fx1.fx0
              refine dr (fun w => Hp w0 ps fs w) _ (by kernel_rfl) ?_ (n := 18)
              refine dq 0 F rfl (by kernel_rfl) NP HS (fun w S => (r_mv (F.ev (x := .tmp 13) rfl))) fun a F => ?_
              refine dq 1 F rfl (by kernel_rfl) NP HS (fun w S => (r_mv (F.ev (x := .tmp 151) rfl))) fun a F => ?_
              by_cases c127 : x1 = true
              · rw [if_pos c127] at k_125
                rw [c127] at F
                refine dq 2 F rfl (by kernel_rfl) NP HS (fun w S => (r_mv (F.ev (x := .tmp 5) rfl))) fun a F => ?_
                refine dq 3 F rfl (by kernel_rfl) NP HS (fun w S => (r_not (F.ev (x := .tmp 153) rfl))) fun a F => ?_
                refine dq 4 F rfl (by kernel_rfl) NP HS (fun w S => (r_mv (F.ev (x := .tmp 154) rfl))) fun a F => ?_
                by_cases c128 : x95 = true
                · rw [if_pos c128] at k_125
                  rw [c128] at F
                  refine dq 5 F rfl (by kernel_rfl) NP HS (fun w S => (r_mv (F.ev (x := .tmp 25) rfl))) fun a F => ?_
                  refine dq 6 F rfl (by kernel_rfl) NP HS (fun w S => (r_eq (F.ev (x := .tmp 156) rfl) (F.ev (x := .const (.int .i64 0)) rfl))) fun a F => ?_
                  refine dq 7 F rfl (by kernel_rfl) NP HS (fun w S => (r_mv (F.ev (x := .tmp 157) rfl))) fun a F => ?_
                  by_cases c129 : x121 = 0
                  · rw [if_pos c129] at k_125
                    rw [decide_eq_true c129] at F
                    refine dq 8 F rfl (by kernel_rfl) NP HS (fun w S => (r_mv (F.ev (x := .tmp 24) rfl))) fun a F => ?_
                    replace H := (H).freeze
                    have hb130 := H.bytes 0 rfl
                    have HS := H.fx1.fx0
                    refine dmoreH HS (fun w S => S.px0) ?_
                    refine dq 9 F rfl (by kernel_rfl) NP HS (fun w S => (S.str 0 rfl (F.ev (x := .tmp 159) rfl) Try.underlying31 Try.underlying5 Try.underlying9)) fun a F => ?_
                    refine dq 10 F rfl (by kernel_rfl) NP HS (fun w S => (r_mv (F.ev (x := .tmp 4) rfl))) fun a F => ?_
                    obtain ⟨x131, e132, k_125⟩ := Option.bind_eq_some_iff.1 k_125
                    try dsimp only at k_125
                    refine d1 11 rfl (by kernel_rfl) (call F Try.func24 (law15_Fill_ok (H) e132 ha4) rfl rfl fun v w hR a F => ?_)
                    obtain ⟨A133, c134, rfl, H⟩ := hR
                    have HS := H.fx2.fx1.fx0
                    refine kg _ HS (fun w S => S) ?_
                    replace H := (H).freeze
                    have hb135 := H.bytes 0 rfl
                    have HS := H.fx1.fx0
                    refine dmoreH HS (fun w S => S.px0) ?_
                    refine dq 12 F rfl (by kernel_rfl) NP HS (fun w S => (S.str 0 rfl (F.ev (x := .tmp 162) rfl) Try.underlying31 Try.underlying5 Try.underlying9)) fun a F => ?_
                    refine dq 13 F rfl (by kernel_rfl) NP HS (fun w S => (r_seq (F.ev (x := .tmp 160) rfl) (F.ev (x := .tmp 163) rfl) hb130 hb135)) fun a F => ?_
                    refine dq 14 F rfl (by kernel_rfl) NP HS (fun w S => (r_pickT (F.ev (x := .tmp 158) rfl) (F.ev (x := .tmp 164) rfl))) fun a F => ?_
                    refine dq 15 F rfl (by kernel_rfl) NP HS (fun w S => (r_pickF (F.ev (x := .tmp 155) rfl) (F.ev (x := .tmp 165) rfl))) fun a F => ?_
                    refine dq 16 F rfl (by kernel_rfl) NP HS (fun w S => (r_pickT (F.ev (x := .tmp 152) rfl) (F.ev (x := .tmp 166) rfl))) fun a F => ?_
                    refine dq 17 F rfl (by kernel_rfl) NP HS (fun w S => (r_as (F.ev (x := .tmp 167) rfl))) fun a F => ?_
                    refine ddone (by kernel_rfl) ?_
                    replace F := F.only [12] (l' := [(12, .bool (decide (x120 = x131)))]) rfl
                    try dsimp only at k_125
                    obtain rfl := Option.some.inj k_125
                    exact ⟨_, rfl, F.only [12] rfl, H.px1.px0⟩
                  · rw [if_neg c129] at k_125
                    rw [decide_eq_false c129] at F
                    refine doff 8 F rfl (by kernel_rfl) NP HS fun a F => ?_
                    refine doff 9 F rfl (by kernel_rfl) NP HS fun a F => ?_
                    refine doff 10 F rfl (by kernel_rfl) NP HS fun a F => ?_
                    refine doff 11 F rfl (by kernel_rfl) NP HS fun a F => ?_
                    refine doff 12 F rfl (by kernel_rfl) NP HS fun a F => ?_
                    refine doff 13 F rfl (by kernel_rfl) NP HS fun a F => ?_
                    refine dq 14 F rfl (by kernel_rfl) NP HS (fun w S => (r_pickF (F.ev (x := .tmp 158) rfl) (F.ev (x := .const (.bool false)) rfl))) fun a F => ?_
                    refine dq 15 F rfl (by kernel_rfl) NP HS (fun w S => (r_pickF (F.ev (x := .tmp 155) rfl) (F.ev (x := .tmp 165) rfl))) fun a F => ?_
                    refine dq 16 F rfl (by kernel_rfl) NP HS (fun w S => (r_pickT (F.ev (x := .tmp 152) rfl) (F.ev (x := .tmp 166) rfl))) fun a F => ?_
                    refine dq 17 F rfl (by kernel_rfl) NP HS (fun w S => (r_as (F.ev (x := .tmp 167) rfl))) fun a F => ?_
                    refine ddone (by kernel_rfl) ?_
                    replace F := F.only [12] (l' := [(12, .bool false)]) rfl
                    try dsimp only at k_125
                    obtain rfl := Option.some.inj k_125
                    exact ⟨_, rfl, F.only [12] rfl, H.fx0⟩
                · rw [if_neg c128] at k_125
                  rw [Bool.eq_false_iff.2 c128] at F
                  refine doff 5 F rfl (by kernel_rfl) NP HS fun a F => ?_
                  refine doff 6 F rfl (by kernel_rfl) NP HS fun a F => ?_
                  refine doff 7 F rfl (by kernel_rfl) NP HS fun a F => ?_
                  refine doff 8 F rfl (by kernel_rfl) NP HS fun a F => ?_
                  refine doff 9 F rfl (by kernel_rfl) NP HS fun a F => ?_
                  refine doff 10 F rfl (by kernel_rfl) NP HS fun a F => ?_
                  refine doff 11 F rfl (by kernel_rfl) NP HS fun a F => ?_
                  refine doff 12 F rfl (by kernel_rfl) NP HS fun a F => ?_
                  refine doff 13 F rfl (by kernel_rfl) NP HS fun a F => ?_
                  refine doff 14 F rfl (by kernel_rfl) NP HS fun a F => ?_
                  refine dq 15 F rfl (by kernel_rfl) NP HS (fun w S => (r_pickT (F.ev (x := .tmp 155) rfl) (F.ev (x := .const (.bool true)) rfl))) fun a F => ?_
                  refine dq 16 F rfl (by kernel_rfl) NP HS (fun w S => (r_pickT (F.ev (x := .tmp 152) rfl) (F.ev (x := .tmp 166) rfl))) fun a F => ?_
                  refine dq 17 F rfl (by kernel_rfl) NP HS (fun w S => (r_as (F.ev (x := .tmp 167) rfl))) fun a F => ?_
                  refine ddone (by kernel_rfl) ?_
                  replace F := F.only [12] (l' := [(12, .bool true)]) rfl
                  try dsimp only at k_125
                  obtain rfl := Option.some.inj k_125
                  exact ⟨_, rfl, F.only [12] rfl, H.fx0⟩
              · rw [if_neg c127] at k_125
                rw [Bool.eq_false_iff.2 c127] at F
                refine doff 2 F rfl (by kernel_rfl) NP HS fun a F => ?_
                refine doff 3 F rfl (by kernel_rfl) NP HS fun a F => ?_
                refine doff 4 F rfl (by kernel_rfl) NP HS fun a F => ?_
                refine doff 5 F rfl (by kernel_rfl) NP HS fun a F => ?_
                refine doff 6 F rfl (by kernel_rfl) NP HS fun a F => ?_
                refine doff 7 F rfl (by kernel_rfl) NP HS fun a F => ?_
                refine doff 8 F rfl (by kernel_rfl) NP HS fun a F => ?_
                refine doff 9 F rfl (by kernel_rfl) NP HS fun a F => ?_
                refine doff 10 F rfl (by kernel_rfl) NP HS fun a F => ?_
                refine doff 11 F rfl (by kernel_rfl) NP HS fun a F => ?_
                refine doff 12 F rfl (by kernel_rfl) NP HS fun a F => ?_
                refine doff 13 F rfl (by kernel_rfl) NP HS fun a F => ?_
                refine doff 14 F rfl (by kernel_rfl) NP HS fun a F => ?_
                refine doff 15 F rfl (by kernel_rfl) NP HS fun a F => ?_
                refine dq 16 F rfl (by kernel_rfl) NP HS (fun w S => (r_pickF (F.ev (x := .tmp 152) rfl) (F.ev (x := .const (.bool false)) rfl))) fun a F => ?_
                refine dq 17 F rfl (by kernel_rfl) NP HS (fun w S => (r_as (F.ev (x := .tmp 167) rfl))) fun a F => ?_
                refine ddone (by kernel_rfl) ?_
                replace F := F.only [12] (l' := [(12, .bool false)]) rfl
                try dsimp only at k_125
                obtain rfl := Option.some.inj k_125
                exact ⟨_, rfl, F.only [12] rfl, H.fx0⟩
            · rintro a w ⟨x125, rfl, F, H⟩
              try dsimp only at h F H
              refine wp_ret ?_
              try dsimp only at h
              obtain rfl := Option.some.inj h
              exact RET _ _ (ret1 F rfl rfl ⟨_, rfl, rfl, H.fx1.fx0⟩)
end Go.Proofs.Ytddfdbpjldcjiaa
